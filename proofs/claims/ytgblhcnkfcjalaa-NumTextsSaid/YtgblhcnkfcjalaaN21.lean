/- The document's sums, differences, products, opposites, which is greater. -/
import Derived.Test.YtgblhcnkfcjalaaN20
import Derived.Test.YtgblhcnkfcjalaaN16
set_option linter.unusedVariables false
set_option linter.unusedSimpArgs false
namespace Go.Abs
open Go Go.Proofs
set_option maxRecDepth 100000
set_option maxHeartbeats 40000000
set_option linter.unusedSimpArgs false

def pl63_4 : Plan := ⟨[0, 1, 2, 3, 4, 5], [(6, [1], []), (7, [], []), (8, [], [])]⟩
def pl63_6 : Plan := ⟨[0, 1, 2, 3, 4, 5], [(6, [1], []), (7, [], []), (8, [], [])]⟩
def pl63_7 : Plan := ⟨[0, 1, 2, 3, 4, 5], [(6, [1], []), (7, [], []), (8, [], [])]⟩
def pl64_1 : Plan := ⟨[0, 1], [(2, [0], []), (3, [], []), (4, [], [])]⟩
def pl65_3 : Plan := ⟨[0, 1, 2, 3, 4, 5, 6, 7, 8], [(9, [3, 1], []), (10, [], []), (11, [], [])]⟩
theorem U.setbox {H : Heap} {sl : Value} {l : List Int} (h : U Try.prog H sl l) {b : Nat} {cs : List Value} (hg : H.get b = some (.row true 24 cs)) (o : AObj) : U Try.prog (H.set b o) sl l := Sl.setbox h hg (by rw [T.s24]; decide) o
theorem neg_sign (z : Int) : (if (!decide (z < 0)) = true then -(val (limbs z.natAbs)) else val (limbs z.natAbs)) = -z := by
  rw [val_limbs]
  by_cases h0 : z < 0
  · simp [h0]; omega
  · simp [h0]; omega

theorem z67 {H : Heap} {v : Value} {z : Int} {K : Nat} (h : IZ H v z K) (hK : K ≤ 2 ^ 40) : ACalls Try.prog 42 [v] H fun r H' => IN H' r (-z) ∧ Hle H H' := by
  have hk := h.ln
  unfold ln at hk
  obtain ⟨ng, sl, rfl, hy0⟩ := h.form
  refine ACalls.of_code T.hm (n := 10) Try.func42 rfl rfl rfl rfl ?_; simp only [List.replicate_succ, List.replicate_zero, List.cons_append, List.nil_append]
  simp (maxSteps := 1000000) (disch := first | exact sd | fail) only [go_sem, Nat.reduceAdd, Nat.reduceSub, Nat.reduceLeDiff, ↓reduceIte, decide_eq_true_eq, if_true, if_false, Bool.false_eq_true, Int.lt_irrefl, implies_true, true_and, and_true, eq_self, and_self, beq_self_eq_true]
  refine (z148 (h.mono Hle.auto) (by omega)).mono ?_
  rintro r1 H1 ⟨hr1, h1⟩
  have n1 := h1.next
  try simp only [next_push, next_set, next_kill, wr_next] at n1
  have q1 : Hle H H1 := Hle.trans Hle.auto h1
  obtain ⟨s1, rfl, y1, u1⟩ := hr1.form
  have g1 : H1.get H.next = some (.row true 24 [.bool ng, sl]) := by simp (maxSteps := 1000000) (disch := first | exact sd | fail) only [go_sem, Nat.reduceAdd, Nat.reduceSub, Nat.reduceLeDiff, ↓reduceIte, decide_eq_true_eq, if_true, if_false, Bool.false_eq_true, Int.lt_irrefl, implies_true, true_and, and_true, eq_self, and_self, beq_self_eq_true, h1.get]
  have u1a := u1.setbox g1 (.row true 24 [.bool (decide (z < 0)), s1])
  simp (maxSteps := 1000000) (disch := first | exact sd | fail) only [go_sem, Nat.reduceAdd, Nat.reduceSub, Nat.reduceLeDiff, ↓reduceIte, decide_eq_true_eq, if_true, if_false, Bool.false_eq_true, Int.lt_irrefl, implies_true, true_and, and_true, eq_self, and_self, beq_self_eq_true, g1]
  refine (z150 u1a (lim_limbs _) (by omega)).mono ?_
  rintro r H2 ⟨hr, h2⟩
  have n2 := h2.next
  try simp only [next_push, next_set, next_kill, wr_next] at n2
  have q2 : Hle H H2 := Hle.trans Hle.auto h2
  rw [neg_sign] at hr
  obtain ⟨sr, rfl, hy2, _⟩ := hr.form
  have g2 : H2.get (H.next + 1) = some (.row true 24 [.bool false, .slice none 0 0]) := by simp (maxSteps := 1000000) (disch := first | exact sd | fail) only [go_sem, Nat.reduceAdd, Nat.reduceSub, Nat.reduceLeDiff, ↓reduceIte, decide_eq_true_eq, if_true, if_false, Bool.false_eq_true, Int.lt_irrefl, implies_true, true_and, and_true, eq_self, and_self, beq_self_eq_true, h1.get, h2.get]
  simp (maxSteps := 1000000) (disch := first | exact sd | fail) only [go_sem, Nat.reduceAdd, Nat.reduceSub, Nat.reduceLeDiff, ↓reduceIte, decide_eq_true_eq, if_true, if_false, Bool.false_eq_true, Int.lt_irrefl, implies_true, true_and, and_true, eq_self, and_self, beq_self_eq_true, g2]
  exact ⟨hr.setbox g2 _, Hle.auto⟩


theorem z63 {H : Heap} {v w : Value} {y z : Int} {K L : Nat} (h : IZ H v y K) (h' : IZ H w z L) (hK : K ≤ 2 ^ 40) (hL : L ≤ 2 ^ 40) : ACalls Try.prog 38 [v, w] H fun r H' => IN H' r (y + z) ∧ Hle H H' := by
  obtain ⟨ng, sl, rfl, hy0⟩ := h.form
  obtain ⟨mg, sm, rfl, hy0'⟩ := h'.form
  refine ACalls.of_code T.hm (n := 42) Try.func38 rfl rfl rfl rfl ?_; simp only [List.replicate_succ, List.replicate_zero, List.cons_append, List.nil_append]
  have hk := h.ln
  have hk' := h'.ln
  have hk2 := hk
  have hk2' := hk'
  unfold ln at hk2 hk2'
  have vX := val_limbs y.natAbs
  have vY := val_limbs z.natAbs
  simp (maxSteps := 1000000) (disch := first | exact sd | fail) only [go_sem, Nat.reduceAdd, Nat.reduceSub, Nat.reduceLeDiff, ↓reduceIte, decide_eq_true_eq, if_true, if_false, Bool.false_eq_true, Int.lt_irrefl, implies_true, true_and, and_true, eq_self, and_self, beq_self_eq_true, aw_plan (id := 4) pl63_4, pl63_4, aw_plan (id := 6) pl63_6, pl63_6, aw_plan (id := 7) pl63_7, pl63_7]
  refine (z148 (h.mono Hle.auto) (by omega)).mono ?_
  rintro r1 H1 ⟨hr1, h1⟩
  have n1 := h1.next
  try simp only [next_push, next_set, next_kill, wr_next] at n1
  have q1 : Hle H H1 := Hle.trans Hle.auto h1
  obtain ⟨s1, rfl, y1, u1⟩ := hr1.form
  have g1 : H1.get H.next = some (.row true 24 [.bool ng, sl]) := by simp (maxSteps := 1000000) (disch := first | exact sd | fail) only [go_sem, Nat.reduceAdd, Nat.reduceSub, Nat.reduceLeDiff, ↓reduceIte, decide_eq_true_eq, if_true, if_false, Bool.false_eq_true, Int.lt_irrefl, implies_true, true_and, and_true, eq_self, and_self, beq_self_eq_true, aw_plan (id := 4) pl63_4, pl63_4, aw_plan (id := 6) pl63_6, pl63_6, aw_plan (id := 7) pl63_7, pl63_7, h1.get]
  have u1a := u1.setbox g1 (.row true 24 [.bool (decide (y < 0)), s1])
  simp (maxSteps := 1000000) (disch := first | exact sd | fail) only [go_sem, Nat.reduceAdd, Nat.reduceSub, Nat.reduceLeDiff, ↓reduceIte, decide_eq_true_eq, if_true, if_false, Bool.false_eq_true, Int.lt_irrefl, implies_true, true_and, and_true, eq_self, and_self, beq_self_eq_true, aw_plan (id := 4) pl63_4, pl63_4, aw_plan (id := 6) pl63_6, pl63_6, aw_plan (id := 7) pl63_7, pl63_7, g1, h1.get]
  refine (z148 (h'.mono Hle.auto) (by omega)).mono ?_
  rintro r2 H2 ⟨hr2, h2⟩
  have n2 := h2.next
  try simp only [next_push, next_set, next_kill, wr_next] at n2
  have q2 : Hle H H2 := Hle.trans Hle.auto h2
  obtain ⟨s2, rfl, y2, u2⟩ := hr2.form
  have g2 : H2.get (H.next + 1) = some (.row true 24 [.bool mg, sm]) := by simp (maxSteps := 1000000) (disch := first | exact sd | fail) only [go_sem, Nat.reduceAdd, Nat.reduceSub, Nat.reduceLeDiff, ↓reduceIte, decide_eq_true_eq, if_true, if_false, Bool.false_eq_true, Int.lt_irrefl, implies_true, true_and, and_true, eq_self, and_self, beq_self_eq_true, aw_plan (id := 4) pl63_4, pl63_4, aw_plan (id := 6) pl63_6, pl63_6, aw_plan (id := 7) pl63_7, pl63_7, h1.get, h2.get]
  have u1b := U.setbox (U.mono u1a h2) g2 (.row true 24 [.bool (decide (z < 0)), s2])
  have u2b := u2.setbox g2 (.row true 24 [.bool (decide (z < 0)), s2])
  by_cases hs : decide (y < 0) = decide (z < 0)
  · simp (maxSteps := 1000000) (disch := first | exact sd | fail) only [go_sem, Nat.reduceAdd, Nat.reduceSub, Nat.reduceLeDiff, ↓reduceIte, decide_eq_true_eq, if_true, if_false, Bool.false_eq_true, Int.lt_irrefl, implies_true, true_and, and_true, eq_self, and_self, beq_self_eq_true, aw_plan (id := 4) pl63_4, pl63_4, aw_plan (id := 6) pl63_6, pl63_6, aw_plan (id := 7) pl63_7, pl63_7, g2, h1.get, h2.get, hs, aw_plan (id := 4) ⟨[0, 1, 2, 3, 4, 5], [(6, [1], []), (7, [], []), (8, [], [])]⟩]
    refine (c158 u1b u2b (lim_limbs _) (lim_limbs _) (by omega) (by omega)).mono ?_
    rintro s3 H3 ⟨l3, u3, m3, v3, e3, t3, h3⟩
    have n3 := h3.next
    try simp only [next_push, next_set, next_kill, wr_next] at n3
    have q3 : Hle H H3 := Hle.trans Hle.auto h3
    simp (maxSteps := 1000000) (disch := first | exact sd | fail) only [go_sem, Nat.reduceAdd, Nat.reduceSub, Nat.reduceLeDiff, ↓reduceIte, decide_eq_true_eq, if_true, if_false, Bool.false_eq_true, Int.lt_irrefl, implies_true, true_and, and_true, eq_self, and_self, beq_self_eq_true, aw_plan (id := 4) pl63_4, pl63_4, aw_plan (id := 6) pl63_6, pl63_6, aw_plan (id := 7) pl63_7, pl63_7, h1.get, h2.get, h3.get, g2, hs]
    have e : (if decide (z < 0) = true then -(val l3) else val l3) = y + z := by
      rw [v3, vX, vY]
      by_cases b0 : z < 0
      · have : y < 0 := by simpa [b0] using hs
        simp [b0]; omega
      · have : ¬ y < 0 := by simpa [b0] using hs
        simp [b0]; omega
    refine (z150 u3 m3 (by omega)).mono ?_
    rintro r H4 ⟨hr, h4⟩
    have n4 := h4.next
    try simp only [next_push, next_set, next_kill, wr_next] at n4
    have q4 : Hle H H4 := Hle.trans Hle.auto h4
    rw [e] at hr
    obtain ⟨sr, rfl, hy4, _⟩ := hr.form
    have g4 : H4.get (H.next + 1 + 1) = some (.row true 24 [.bool false, .slice none 0 0]) := by simp (maxSteps := 1000000) (disch := first | exact sd | fail) only [go_sem, Nat.reduceAdd, Nat.reduceSub, Nat.reduceLeDiff, ↓reduceIte, decide_eq_true_eq, if_true, if_false, Bool.false_eq_true, Int.lt_irrefl, implies_true, true_and, and_true, eq_self, and_self, beq_self_eq_true, aw_plan (id := 4) pl63_4, pl63_4, aw_plan (id := 6) pl63_6, pl63_6, aw_plan (id := 7) pl63_7, pl63_7, h1.get, h2.get, h3.get, h4.get]
    simp (maxSteps := 1000000) (disch := first | exact sd | fail) only [go_sem, Nat.reduceAdd, Nat.reduceSub, Nat.reduceLeDiff, ↓reduceIte, decide_eq_true_eq, if_true, if_false, Bool.false_eq_true, Int.lt_irrefl, implies_true, true_and, and_true, eq_self, and_self, beq_self_eq_true, aw_plan (id := 4) pl63_4, pl63_4, aw_plan (id := 6) pl63_6, pl63_6, aw_plan (id := 7) pl63_7, pl63_7, g4]
    exact ⟨hr.setbox g4 _, Hle.auto⟩
  · have hs2 : (decide (y < 0) == decide (z < 0)) = false := by simpa using hs
    simp (maxSteps := 1000000) (disch := first | exact sd | fail) only [go_sem, Nat.reduceAdd, Nat.reduceSub, Nat.reduceLeDiff, ↓reduceIte, decide_eq_true_eq, if_true, if_false, Bool.false_eq_true, Int.lt_irrefl, implies_true, true_and, and_true, eq_self, and_self, beq_self_eq_true, aw_plan (id := 4) pl63_4, pl63_4, aw_plan (id := 6) pl63_6, pl63_6, aw_plan (id := 7) pl63_7, pl63_7, g2, h1.get, h2.get, hs2]
    refine (c159 u1b u2b (lim_limbs _) (lim_limbs _) (top_limbs _) (top_limbs _) (by omega) (by omega)).mono ?_
    rintro _ _ ⟨rfl, rfl⟩
    rw [vX, vY]
    by_cases b5 : (0 : Int) ≤ sg ((y.natAbs : Int) - z.natAbs)
    · have h5' : (z.natAbs : Int) ≤ y.natAbs := by unfold sg at b5; split at b5 <;> omega
      simp (maxSteps := 1000000) (disch := first | exact sd | fail) only [go_sem, Nat.reduceAdd, Nat.reduceSub, Nat.reduceLeDiff, ↓reduceIte, decide_eq_true_eq, if_true, if_false, Bool.false_eq_true, Int.lt_irrefl, implies_true, true_and, and_true, eq_self, and_self, beq_self_eq_true, aw_plan (id := 4) pl63_4, pl63_4, aw_plan (id := 6) pl63_6, pl63_6, aw_plan (id := 7) pl63_7, pl63_7, g2, h1.get, h2.get, b5, aw_plan (id := 6) ⟨[0, 1, 2, 3, 4, 5], [(6, [1], []), (7, [], []), (8, [], [])]⟩]
      refine (c160 u1b u2b (lim_limbs _) (lim_limbs _) (by omega) (by exact ln_mono (a := z) (b := y) (by omega)) (by omega)).mono ?_
      rintro s3 H3 ⟨l3, u3, m3, v3, e3, t3, h3⟩
      have n3 := h3.next
      try simp only [next_push, next_set, next_kill, wr_next] at n3
      have q3 : Hle H H3 := Hle.trans Hle.auto h3
      simp (maxSteps := 1000000) (disch := first | exact sd | fail) only [go_sem, Nat.reduceAdd, Nat.reduceSub, Nat.reduceLeDiff, ↓reduceIte, decide_eq_true_eq, if_true, if_false, Bool.false_eq_true, Int.lt_irrefl, implies_true, true_and, and_true, eq_self, and_self, beq_self_eq_true, aw_plan (id := 4) pl63_4, pl63_4, aw_plan (id := 6) pl63_6, pl63_6, aw_plan (id := 7) pl63_7, pl63_7, h1.get, h2.get, h3.get, g2]
      have e : (if decide (y < 0) = true then -(val l3) else val l3) = y + z := by
        rw [v3, vX, vY]
        by_cases b0 : y < 0
        · have : ¬ z < 0 := by simpa [b0] using hs
          simp [b0]; omega
        · have : z < 0 := by simpa [b0] using hs
          simp [b0]; omega
      refine (z150 u3 m3 (by omega)).mono ?_
      rintro r H4 ⟨hr, h4⟩
      have n4 := h4.next
      try simp only [next_push, next_set, next_kill, wr_next] at n4
      have q4 : Hle H H4 := Hle.trans Hle.auto h4
      rw [e] at hr
      obtain ⟨sr, rfl, hy4, _⟩ := hr.form
      have g4 : H4.get (H.next + 1 + 1) = some (.row true 24 [.bool false, .slice none 0 0]) := by simp (maxSteps := 1000000) (disch := first | exact sd | fail) only [go_sem, Nat.reduceAdd, Nat.reduceSub, Nat.reduceLeDiff, ↓reduceIte, decide_eq_true_eq, if_true, if_false, Bool.false_eq_true, Int.lt_irrefl, implies_true, true_and, and_true, eq_self, and_self, beq_self_eq_true, aw_plan (id := 4) pl63_4, pl63_4, aw_plan (id := 6) pl63_6, pl63_6, aw_plan (id := 7) pl63_7, pl63_7, h1.get, h2.get, h3.get, h4.get]
      simp (maxSteps := 1000000) (disch := first | exact sd | fail) only [go_sem, Nat.reduceAdd, Nat.reduceSub, Nat.reduceLeDiff, ↓reduceIte, decide_eq_true_eq, if_true, if_false, Bool.false_eq_true, Int.lt_irrefl, implies_true, true_and, and_true, eq_self, and_self, beq_self_eq_true, aw_plan (id := 4) pl63_4, pl63_4, aw_plan (id := 6) pl63_6, pl63_6, aw_plan (id := 7) pl63_7, pl63_7, g4]
      exact ⟨hr.setbox g4 _, Hle.auto⟩
    · have h5' : (y.natAbs : Int) < z.natAbs := by unfold sg at b5; split at b5; omega; split at b5 <;> omega
      simp (maxSteps := 1000000) (disch := first | exact sd | fail) only [go_sem, Nat.reduceAdd, Nat.reduceSub, Nat.reduceLeDiff, ↓reduceIte, decide_eq_true_eq, if_true, if_false, Bool.false_eq_true, Int.lt_irrefl, implies_true, true_and, and_true, eq_self, and_self, beq_self_eq_true, aw_plan (id := 4) pl63_4, pl63_4, aw_plan (id := 6) pl63_6, pl63_6, aw_plan (id := 7) pl63_7, pl63_7, g2, h1.get, h2.get, b5, aw_plan (id := 7) ⟨[0, 1, 2, 3, 4, 5], [(6, [1], []), (7, [], []), (8, [], [])]⟩]
      refine (c160 u2b u1b (lim_limbs _) (lim_limbs _) (by omega) (by exact ln_mono (a := y) (b := z) (by omega)) (by omega)).mono ?_
      rintro s3 H3 ⟨l3, u3, m3, v3, e3, t3, h3⟩
      have n3 := h3.next
      try simp only [next_push, next_set, next_kill, wr_next] at n3
      have q3 : Hle H H3 := Hle.trans Hle.auto h3
      simp (maxSteps := 1000000) (disch := first | exact sd | fail) only [go_sem, Nat.reduceAdd, Nat.reduceSub, Nat.reduceLeDiff, ↓reduceIte, decide_eq_true_eq, if_true, if_false, Bool.false_eq_true, Int.lt_irrefl, implies_true, true_and, and_true, eq_self, and_self, beq_self_eq_true, aw_plan (id := 4) pl63_4, pl63_4, aw_plan (id := 6) pl63_6, pl63_6, aw_plan (id := 7) pl63_7, pl63_7, h1.get, h2.get, h3.get, g2]
      have e : (if decide (z < 0) = true then -(val l3) else val l3) = y + z := by
        rw [v3, vX, vY]
        by_cases b0 : z < 0
        · have : ¬ y < 0 := by intro h1; exact hs (by simp [b0, h1])
          simp [b0]; omega
        · have : y < 0 := by
            refine Classical.byContradiction fun h1 => hs (by simp [b0, h1])
          simp [b0]; omega
      refine (z150 u3 m3 (by omega)).mono ?_
      rintro r H4 ⟨hr, h4⟩
      have n4 := h4.next
      try simp only [next_push, next_set, next_kill, wr_next] at n4
      have q4 : Hle H H4 := Hle.trans Hle.auto h4
      rw [e] at hr
      obtain ⟨sr, rfl, hy4, _⟩ := hr.form
      have g4 : H4.get (H.next + 1 + 1) = some (.row true 24 [.bool false, .slice none 0 0]) := by simp (maxSteps := 1000000) (disch := first | exact sd | fail) only [go_sem, Nat.reduceAdd, Nat.reduceSub, Nat.reduceLeDiff, ↓reduceIte, decide_eq_true_eq, if_true, if_false, Bool.false_eq_true, Int.lt_irrefl, implies_true, true_and, and_true, eq_self, and_self, beq_self_eq_true, aw_plan (id := 4) pl63_4, pl63_4, aw_plan (id := 6) pl63_6, pl63_6, aw_plan (id := 7) pl63_7, pl63_7, h1.get, h2.get, h3.get, h4.get]
      simp (maxSteps := 1000000) (disch := first | exact sd | fail) only [go_sem, Nat.reduceAdd, Nat.reduceSub, Nat.reduceLeDiff, ↓reduceIte, decide_eq_true_eq, if_true, if_false, Bool.false_eq_true, Int.lt_irrefl, implies_true, true_and, and_true, eq_self, and_self, beq_self_eq_true, aw_plan (id := 4) pl63_4, pl63_4, aw_plan (id := 6) pl63_6, pl63_6, aw_plan (id := 7) pl63_7, pl63_7, g4]
      exact ⟨hr.setbox g4 _, Hle.auto⟩

theorem z65 {H : Heap} {v w : Value} {y z : Int} {K L : Nat} (h : IZ H v y K) (h' : IZ H w z L) (hK : K ≤ 2 ^ 40) (hL : L ≤ 2 ^ 40) : ACalls Try.prog 40 [v, w] H fun r H' => IN H' r (y * z) ∧ Hle H H' := by
  obtain ⟨ng, sl, rfl, hy0⟩ := h.form
  obtain ⟨mg, sm, rfl, hy0'⟩ := h'.form
  refine ACalls.of_code T.hm (n := 18) Try.func40 rfl rfl rfl rfl ?_; simp only [List.replicate_succ, List.replicate_zero, List.cons_append, List.nil_append]
  have hk := h.ln
  have hk' := h'.ln
  have hk2 := hk
  have hk2' := hk'
  unfold ln at hk2 hk2'
  have vX := val_limbs y.natAbs
  have vY := val_limbs z.natAbs
  simp (maxSteps := 1000000) (disch := first | exact sd | fail) only [go_sem, Nat.reduceAdd, Nat.reduceSub, Nat.reduceLeDiff, ↓reduceIte, decide_eq_true_eq, if_true, if_false, Bool.false_eq_true, Int.lt_irrefl, implies_true, true_and, and_true, eq_self, and_self, beq_self_eq_true, aw_plan (id := 3) pl65_3, pl65_3]
  refine (z148 (h.mono Hle.auto) (by omega)).mono ?_
  rintro r1 H1 ⟨hr1, h1⟩
  have n1 := h1.next
  try simp only [next_push, next_set, next_kill, wr_next] at n1
  have q1 : Hle H H1 := Hle.trans Hle.auto h1
  obtain ⟨s1, rfl, y1, u1⟩ := hr1.form
  have g1 : H1.get H.next = some (.row true 24 [.bool ng, sl]) := by simp (maxSteps := 1000000) (disch := first | exact sd | fail) only [go_sem, Nat.reduceAdd, Nat.reduceSub, Nat.reduceLeDiff, ↓reduceIte, decide_eq_true_eq, if_true, if_false, Bool.false_eq_true, Int.lt_irrefl, implies_true, true_and, and_true, eq_self, and_self, beq_self_eq_true, aw_plan (id := 3) pl65_3, pl65_3, h1.get]
  have u1a := u1.setbox g1 (.row true 24 [.bool (decide (y < 0)), s1])
  simp (maxSteps := 1000000) (disch := first | exact sd | fail) only [go_sem, Nat.reduceAdd, Nat.reduceSub, Nat.reduceLeDiff, ↓reduceIte, decide_eq_true_eq, if_true, if_false, Bool.false_eq_true, Int.lt_irrefl, implies_true, true_and, and_true, eq_self, and_self, beq_self_eq_true, aw_plan (id := 3) pl65_3, pl65_3, g1, h1.get]
  refine (z148 (h'.mono Hle.auto) (by omega)).mono ?_
  rintro r2 H2 ⟨hr2, h2⟩
  have n2 := h2.next
  try simp only [next_push, next_set, next_kill, wr_next] at n2
  have q2 : Hle H H2 := Hle.trans Hle.auto h2
  obtain ⟨s2, rfl, y2, u2⟩ := hr2.form
  have g2 : H2.get (H.next + 1) = some (.row true 24 [.bool mg, sm]) := by simp (maxSteps := 1000000) (disch := first | exact sd | fail) only [go_sem, Nat.reduceAdd, Nat.reduceSub, Nat.reduceLeDiff, ↓reduceIte, decide_eq_true_eq, if_true, if_false, Bool.false_eq_true, Int.lt_irrefl, implies_true, true_and, and_true, eq_self, and_self, beq_self_eq_true, aw_plan (id := 3) pl65_3, pl65_3, h1.get, h2.get]
  have u1b := U.setbox (U.mono u1a h2) g2 (.row true 24 [.bool (decide (z < 0)), s2])
  have u2b := u2.setbox g2 (.row true 24 [.bool (decide (z < 0)), s2])
  simp (maxSteps := 1000000) (disch := first | exact sd | fail) only [go_sem, Nat.reduceAdd, Nat.reduceSub, Nat.reduceLeDiff, ↓reduceIte, decide_eq_true_eq, if_true, if_false, Bool.false_eq_true, Int.lt_irrefl, implies_true, true_and, and_true, eq_self, and_self, beq_self_eq_true, aw_plan (id := 3) pl65_3, pl65_3, g2, h1.get, h2.get, aw_plan (id := 3) ⟨[0, 1, 2, 3, 4, 5, 6, 7, 8], [(9, [3, 1], []), (10, [], []), (11, [], [])]⟩]
  refine (c161 u1b u2b (lim_limbs _) (lim_limbs _) (by omega) (by omega)).mono ?_
  rintro s3 H3 ⟨l3, u3, m3, v3, e3, h3⟩
  have n3 := h3.next
  try simp only [next_push, next_set, next_kill, wr_next] at n3
  have q3 : Hle H H3 := Hle.trans Hle.auto h3
  simp (maxSteps := 1000000) (disch := first | exact sd | fail) only [go_sem, Nat.reduceAdd, Nat.reduceSub, Nat.reduceLeDiff, ↓reduceIte, decide_eq_true_eq, if_true, if_false, Bool.false_eq_true, Int.lt_irrefl, implies_true, true_and, and_true, eq_self, and_self, beq_self_eq_true, aw_plan (id := 3) pl65_3, pl65_3, h1.get, h2.get, h3.get, g2]
  refine (z150 u3 m3 (by omega)).mono ?_
  rintro r H4 ⟨hr, h4⟩
  have n4 := h4.next
  try simp only [next_push, next_set, next_kill, wr_next] at n4
  have q4 : Hle H H4 := Hle.trans Hle.auto h4
  rw [v3, vX, vY, mul_sign] at hr
  obtain ⟨sr, rfl, hy4, _⟩ := hr.form
  have g4 : H4.get (H.next + 1 + 1) = some (.row true 24 [.bool false, .slice none 0 0]) := by simp (maxSteps := 1000000) (disch := first | exact sd | fail) only [go_sem, Nat.reduceAdd, Nat.reduceSub, Nat.reduceLeDiff, ↓reduceIte, decide_eq_true_eq, if_true, if_false, Bool.false_eq_true, Int.lt_irrefl, implies_true, true_and, and_true, eq_self, and_self, beq_self_eq_true, aw_plan (id := 3) pl65_3, pl65_3, h1.get, h2.get, h3.get, h4.get]
  simp (maxSteps := 1000000) (disch := first | exact sd | fail) only [go_sem, Nat.reduceAdd, Nat.reduceSub, Nat.reduceLeDiff, ↓reduceIte, decide_eq_true_eq, if_true, if_false, Bool.false_eq_true, Int.lt_irrefl, implies_true, true_and, and_true, eq_self, and_self, beq_self_eq_true, aw_plan (id := 3) pl65_3, pl65_3, g4]
  exact ⟨hr.setbox g4 _, Hle.auto⟩

theorem z64 {H : Heap} {v w : Value} {y z : Int} {K L : Nat} (h : IZ H v y K) (h' : IZ H w z L) (hK : K ≤ 2 ^ 40) (hL : L ≤ 2 ^ 40) : ACalls Try.prog 39 [v, w] H fun r H' => IN H' r (y - z) ∧ Hle H H' := by
  obtain ⟨ng, sl, rfl, hy0⟩ := h.form
  obtain ⟨mg, sm, rfl, hy0'⟩ := h'.form
  refine ACalls.of_code T.hm (n := 7) Try.func39 rfl rfl rfl rfl ?_; simp only [List.replicate_succ, List.replicate_zero, List.cons_append, List.nil_append]
  simp (maxSteps := 1000000) (disch := first | exact sd | fail) only [go_sem, Nat.reduceAdd, Nat.reduceSub, Nat.reduceLeDiff, ↓reduceIte, decide_eq_true_eq, if_true, if_false, Bool.false_eq_true, Int.lt_irrefl, implies_true, true_and, and_true, eq_self, and_self, beq_self_eq_true, aw_plan (id := 1) pl64_1, pl64_1, aw_plan (id := 1) ⟨[0, 1], [(2, [0], []), (3, [], []), (4, [], [])]⟩]
  refine (z67 (h'.mono Hle.auto) (by omega)).mono ?_
  rintro r1 H1 ⟨hr1, h1⟩
  have n1 := h1.next
  try simp only [next_push, next_set, next_kill, wr_next] at n1
  have q1 : Hle H H1 := Hle.trans Hle.auto h1
  simp (maxSteps := 1000000) (disch := first | exact sd | fail) only [go_sem, Nat.reduceAdd, Nat.reduceSub, Nat.reduceLeDiff, ↓reduceIte, decide_eq_true_eq, if_true, if_false, Bool.false_eq_true, Int.lt_irrefl, implies_true, true_and, and_true, eq_self, and_self, beq_self_eq_true, aw_plan (id := 1) pl64_1, pl64_1, h1.get]
  refine (z63 (h.mono Hle.auto) hr1.iz (by omega) (by rw [ln_neg]; have := h'.ln; omega)).mono ?_
  rintro r H2 ⟨hr, h2⟩
  have n2 := h2.next
  try simp only [next_push, next_set, next_kill, wr_next] at n2
  have q2 : Hle H H2 := Hle.trans Hle.auto h2
  obtain ⟨sr, rfl, hy7, _⟩ := hr.form
  have hg7 : H2.get (H.next + 1 + 1) = some (.row true 24 [.bool false, .slice none 0 0]) := by simp (maxSteps := 1000000) (disch := first | exact sd | fail) only [go_sem, Nat.reduceAdd, Nat.reduceSub, Nat.reduceLeDiff, ↓reduceIte, decide_eq_true_eq, if_true, if_false, Bool.false_eq_true, Int.lt_irrefl, implies_true, true_and, and_true, eq_self, and_self, beq_self_eq_true, aw_plan (id := 1) pl64_1, pl64_1, h1.get, h2.get]
  simp (maxSteps := 1000000) (disch := first | exact sd | fail) only [go_sem, Nat.reduceAdd, Nat.reduceSub, Nat.reduceLeDiff, ↓reduceIte, decide_eq_true_eq, if_true, if_false, Bool.false_eq_true, Int.lt_irrefl, implies_true, true_and, and_true, eq_self, and_self, beq_self_eq_true, aw_plan (id := 1) pl64_1, pl64_1, h1.get, h2.get, hg7]
  exact ⟨hr.setbox hg7 _, Hle.auto⟩

theorem z68 {H : Heap} {v w : Value} {y z : Int} {K L : Nat} (h : IZ H v y K) (h' : IZ H w z L) (hK : K ≤ 2 ^ 40) (hL : L ≤ 2 ^ 40) : ACalls Try.prog 43 [v, w] H fun r H' => r = .int .i64 (sg (y - z)) ∧ Hle H H' := by
  have hk := h.ln
  have hk' := h'.ln
  have hk3 := ln_sub y z
  obtain ⟨ng, sl, rfl, hy0⟩ := h.form
  obtain ⟨mg, sm, rfl, hy0'⟩ := h'.form
  refine ACalls.of_code T.hm (n := 13) Try.func43 rfl rfl rfl rfl ?_; simp only [List.replicate_succ, List.replicate_zero, List.cons_append, List.nil_append]
  simp (maxSteps := 1000000) (disch := first | exact sd | fail) only [go_sem, Nat.reduceAdd, Nat.reduceSub, Nat.reduceLeDiff, ↓reduceIte, decide_eq_true_eq, if_true, if_false, Bool.false_eq_true, Int.lt_irrefl, implies_true, true_and, and_true, eq_self, and_self, beq_self_eq_true]
  refine (z64 (h.mono Hle.auto) (h'.mono Hle.auto) (by omega) (by omega)).mono ?_
  rintro r1 H1 ⟨hr1, h1⟩
  have n1 := h1.next
  try simp only [next_push, next_set, next_kill, wr_next] at n1
  have q1 : Hle H H1 := Hle.trans Hle.auto h1
  obtain ⟨s1, rfl, y1, u1⟩ := hr1.form
  unfold ln at hk3
  have hnn : (limbs (y - z).natAbs).length = 0 ↔ y - z = 0 := by rw [List.length_eq_zero_iff, limbs_nil]; omega
  by_cases b0 : y - z = 0
  · have b1 : ((limbs (y - z).natAbs).length : Int) = 0 := by have := hnn.2 b0; omega
    simp (maxSteps := 1000000) (disch := first | exact sd | fail) only [go_sem, Nat.reduceAdd, Nat.reduceSub, Nat.reduceLeDiff, ↓reduceIte, decide_eq_true_eq, if_true, if_false, Bool.false_eq_true, Int.lt_irrefl, implies_true, true_and, and_true, eq_self, and_self, beq_self_eq_true, u1.len T.i22, b1]
    exact ⟨by rw [b0]; rfl, Hle.auto⟩
  · have b1 : ¬ ((limbs (y - z).natAbs).length : Int) = 0 := by intro h; exact b0 (hnn.1 (by omega))
    by_cases b2 : y - z < 0
    · simp (maxSteps := 1000000) (disch := first | exact sd | fail) only [go_sem, Nat.reduceAdd, Nat.reduceSub, Nat.reduceLeDiff, ↓reduceIte, decide_eq_true_eq, if_true, if_false, Bool.false_eq_true, Int.lt_irrefl, implies_true, true_and, and_true, eq_self, and_self, beq_self_eq_true, u1.len T.i22, b1, b2]
      exact ⟨by rw [sg, if_pos b2], Hle.auto⟩
    · simp (maxSteps := 1000000) (disch := first | exact sd | fail) only [go_sem, Nat.reduceAdd, Nat.reduceSub, Nat.reduceLeDiff, ↓reduceIte, decide_eq_true_eq, if_true, if_false, Bool.false_eq_true, Int.lt_irrefl, implies_true, true_and, and_true, eq_self, and_self, beq_self_eq_true, u1.len T.i22, b1, b2]
      exact ⟨by rw [sg, if_neg b2, if_pos (by omega)], Hle.auto⟩
end Go.Abs
