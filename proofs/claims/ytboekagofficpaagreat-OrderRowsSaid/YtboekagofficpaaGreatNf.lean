/- Joined: N15, N19, N21, N22. -/
import Derived.Test.YtboekagofficpaaGreatNd
import Derived.Test.YtboekagofficpaaGreatNc
import Derived.Test.YtboekagofficpaaGreatA29
import Derived.Test.YtboekagofficpaaGreatL4
import Derived.Test.YtboekagofficpaaGreatN20
/- The product of two numbers. -/
set_option linter.unusedVariables false
set_option linter.unusedSimpArgs false
namespace Go.Abs
open Go Go.Proofs
set_option maxRecDepth 100000
set_option maxHeartbeats 4000000
set_option linter.unusedSimpArgs false


def pl54_1 : Plan := ⟨[0, 2], [(1, [2], []), (3, [], [4, 5])]⟩
def pl54_16 : Plan := ⟨[0, 2, 5], [(1, [2], []), (3, [], [4]), (6, [], []), (7, [], [])]⟩
end Go.Abs

/- The contracts as laws take them: with how many limbs there are. -/
set_option linter.unusedVariables false
set_option linter.unusedSimpArgs false
namespace Go.Abs
open Go Go.Proofs
set_option maxRecDepth 100000
set_option maxHeartbeats 4000000
set_option linter.unusedSimpArgs false

/-- Nought, as it is typed. -/
theorem IZ.nought {H : Heap} : IZ H (.agg ⟨[.bool false, .slice none 0 0]⟩) 0 0 := ⟨false, [], ⟨_, rfl, .nil, Lim.nil⟩, by simp [den, mayB, val], Nat.le_refl _⟩
theorem IA.iz {H : Heap} {v : Value} {ng : Bool} {l : List Int} {K : Nat} (h : IA Tryz.prog H v ng l) (hk : l.length ≤ K) : IZ H v (den ng l) K := ⟨ng, l, h, rfl, hk⟩
theorem L.app0 {α : Type} {l : List α} : List.append [] l = l := _root_.id rfl
theorem L.app1 {α : Type} {a : α} {l m : List α} : List.append (a :: l) m = a :: List.append l m := _root_.id rfl
attribute [go_sem] L.app0 L.app1

/-- Three numbers in a slice. -/
theorem IAs.three {H : Heap} {s1 s2 s3 : Value} {n1 n2 n3 : Bool} {l1 l2 l3 : List Int} (h1 : U Tryz.prog H s1 l1) (k1 : Lim l1) (h2 : U Tryz.prog H s2 l2) (k2 : Lim l2) (h3 : U Tryz.prog H s3 l3) (k3 : Lim l3) :
    IAs (H.push (.row true 72 [.bool n1, s1, .bool n2, s2, .bool n3, s3])) (.slice (some ⟨H.next, 0, none⟩) 3 3) [(n1, l1), (n2, l2), (n3, l3)] := by
  refine ⟨[.bool n1, s1, .bool n2, s2, .bool n3, s3], ?_, ?_⟩
  · exact Sl.row (P := Tryz.prog) (es := 2) (n := 3) (off := 0) (cs := [.bool n1, s1, .bool n2, s2, .bool n3, s3]) (get_push_self _ _) (by simp) (.inr T.s24) (.inr ⟨Nat.le_refl _, by unfold unk; omega⟩) (by simp)
  · intro i ng' l' h
    match i, h with
    | 0, h =>
      simp only [List.getElem?_cons_zero, Option.some.injEq, Prod.mk.injEq] at h
      obtain ⟨rfl, rfl⟩ := h
      exact ⟨s1, rfl, rfl, h1.mono (Hle.push0 _), k1⟩
    | 1, h =>
      simp only [List.getElem?_cons_zero, List.getElem?_cons_succ, Option.some.injEq, Prod.mk.injEq] at h
      obtain ⟨rfl, rfl⟩ := h
      exact ⟨s2, rfl, rfl, h2.mono (Hle.push0 _), k2⟩
    | 2, h =>
      simp only [List.getElem?_cons_zero, List.getElem?_cons_succ, Option.some.injEq, Prod.mk.injEq] at h
      obtain ⟨rfl, rfl⟩ := h
      exact ⟨s3, rfl, rfl, h3.mono (Hle.push0 _), k3⟩
    | i + 3, h => simp at h
theorem IAs.two {H : Heap} {s1 s2 : Value} {n1 n2 : Bool} {l1 l2 : List Int} (h1 : U Tryz.prog H s1 l1) (k1 : Lim l1) (h2 : U Tryz.prog H s2 l2) (k2 : Lim l2) :
    IAs (H.push (.row true 72 [.bool n1, s1, .bool n2, s2])) (.slice (some ⟨H.next, 0, none⟩) 2 2) [(n1, l1), (n2, l2)] := by
  refine ⟨[.bool n1, s1, .bool n2, s2], ?_, ?_⟩
  · exact Sl.row (P := Tryz.prog) (es := 2) (n := 2) (off := 0) (cs := [.bool n1, s1, .bool n2, s2]) (get_push_self _ _) (by simp) (.inr T.s24) (.inr ⟨Nat.le_refl _, by unfold unk; omega⟩) (by simp)
  · intro i ng' l' h
    match i, h with
    | 0, h =>
      simp only [List.getElem?_cons_zero, Option.some.injEq, Prod.mk.injEq] at h
      obtain ⟨rfl, rfl⟩ := h
      exact ⟨s1, rfl, rfl, h1.mono (Hle.push0 _), k1⟩
    | 1, h =>
      simp only [List.getElem?_cons_zero, List.getElem?_cons_succ, Option.some.injEq, Prod.mk.injEq] at h
      obtain ⟨rfl, rfl⟩ := h
      exact ⟨s2, rfl, rfl, h2.mono (Hle.push0 _), k2⟩
    | i + 2, h => simp at h
end Go.Abs

/- The document's sums, differences, products, opposites, which is greater. -/
set_option linter.unusedVariables false
set_option linter.unusedSimpArgs false
namespace Go.Abs
open Go Go.Proofs
set_option maxRecDepth 100000
set_option maxHeartbeats 40000000
set_option linter.unusedSimpArgs false

def pl63_4 : Plan := ⟨[0, 1, 2, 3, 4, 5], [(6, [1], []), (7, [], []), (8, [], [])]⟩
def pl63_6 : Plan := ⟨[0, 1, 2, 3, 4, 5], [(6, [1], []), (7, [], []), (8, [], [])]⟩
def pl63_7 : Plan := ⟨[0, 1, 2, 3, 4, 5], [(6, [1], []), (7, [], []), (8, [], [])]⟩
def pl64_1 : Plan := ⟨[0, 1], [(2, [0], []), (3, [], []), (4, [], [])]⟩
def pl65_3 : Plan := ⟨[0, 1, 2, 3, 4, 5, 6, 7, 8], [(9, [3, 1], []), (10, [], []), (11, [], [])]⟩
theorem U.setbox {H : Heap} {sl : Value} {l : List Int} (h : U Tryz.prog H sl l) {b : Nat} {cs : List Value} (hg : H.get b = some (.row true 72 cs)) (o : AObj) : U Tryz.prog (H.set b o) sl l := Sl.setbox h hg (by rw [T.s24]; decide) o
theorem neg_sign (z : Int) : (if (!decide (z < 0)) = true then -(val (limbs z.natAbs)) else val (limbs z.natAbs)) = -z := by
  rw [val_limbs]
  by_cases h0 : z < 0
  · simp [h0]; omega
  · simp [h0]; omega

theorem z67 {H : Heap} {v : Value} {z : Int} {K : Nat} (h : IZ H v z K) (hK : K ≤ 2 ^ 40) : ACalls Tryz.prog 122 [v] H fun r H' => IN H' r (-z) ∧ Hle H H' := by
  have hk := h.ln
  unfold ln at hk
  obtain ⟨ng, sl, rfl, hy0⟩ := h.form
  refine ACalls.of_code T.hm (n := 10) Tryz.func122 rfl rfl rfl rfl ?_; simp only [List.replicate_succ, List.replicate_zero, List.cons_append, List.nil_append]
  simp (maxSteps := 1000000) (disch := first | exact sd | fail) only [go_sem, Nat.reduceAdd, Nat.reduceSub, Nat.reduceLeDiff, ↓reduceIte, decide_eq_true_eq, if_true, if_false, Bool.false_eq_true, Int.lt_irrefl, implies_true, true_and, and_true, eq_self, and_self, beq_self_eq_true]
  refine (z148 (h.mono Hle.auto) (by omega)).mono ?_
  rintro r1 H1 ⟨hr1, h1⟩
  have n1 := h1.next
  try simp only [next_push, next_set, next_kill, wr_next] at n1
  have q1 : Hle H H1 := Hle.trans Hle.auto h1
  obtain ⟨s1, rfl, y1, u1⟩ := hr1.form
  have g1 : H1.get H.next = some (.row true 72 [.bool ng, sl]) := by simp (maxSteps := 1000000) (disch := first | exact sd | fail) only [go_sem, Nat.reduceAdd, Nat.reduceSub, Nat.reduceLeDiff, ↓reduceIte, decide_eq_true_eq, if_true, if_false, Bool.false_eq_true, Int.lt_irrefl, implies_true, true_and, and_true, eq_self, and_self, beq_self_eq_true, h1.get]
  have u1a := u1.setbox g1 (.row true 72 [.bool (decide (z < 0)), s1])
  simp (maxSteps := 1000000) (disch := first | exact sd | fail) only [go_sem, Nat.reduceAdd, Nat.reduceSub, Nat.reduceLeDiff, ↓reduceIte, decide_eq_true_eq, if_true, if_false, Bool.false_eq_true, Int.lt_irrefl, implies_true, true_and, and_true, eq_self, and_self, beq_self_eq_true, g1]
  refine (z150 u1a (lim_limbs _) (by omega)).mono ?_
  rintro r H2 ⟨hr, h2⟩
  have n2 := h2.next
  try simp only [next_push, next_set, next_kill, wr_next] at n2
  have q2 : Hle H H2 := Hle.trans Hle.auto h2
  rw [neg_sign] at hr
  obtain ⟨sr, rfl, hy2, _⟩ := hr.form
  have g2 : H2.get (H.next + 1) = some (.row true 72 [.bool false, .slice none 0 0]) := by simp (maxSteps := 1000000) (disch := first | exact sd | fail) only [go_sem, Nat.reduceAdd, Nat.reduceSub, Nat.reduceLeDiff, ↓reduceIte, decide_eq_true_eq, if_true, if_false, Bool.false_eq_true, Int.lt_irrefl, implies_true, true_and, and_true, eq_self, and_self, beq_self_eq_true, h1.get, h2.get]
  simp (maxSteps := 1000000) (disch := first | exact sd | fail) only [go_sem, Nat.reduceAdd, Nat.reduceSub, Nat.reduceLeDiff, ↓reduceIte, decide_eq_true_eq, if_true, if_false, Bool.false_eq_true, Int.lt_irrefl, implies_true, true_and, and_true, eq_self, and_self, beq_self_eq_true, g2]
  exact ⟨hr.setbox g2 _, Hle.auto⟩


theorem z63 {H : Heap} {v w : Value} {y z : Int} {K L : Nat} (h : IZ H v y K) (h' : IZ H w z L) (hK : K ≤ 2 ^ 40) (hL : L ≤ 2 ^ 40) : ACalls Tryz.prog 123 [v, w] H fun r H' => IN H' r (y + z) ∧ Hle H H' := by
  obtain ⟨ng, sl, rfl, hy0⟩ := h.form
  obtain ⟨mg, sm, rfl, hy0'⟩ := h'.form
  refine ACalls.of_code T.hm (n := 42) Tryz.func123 rfl rfl rfl rfl ?_; simp only [List.replicate_succ, List.replicate_zero, List.cons_append, List.nil_append]
  have hk := h.ln
  have hk' := h'.ln
  have hk2 := hk
  have hk2' := hk'
  unfold ln at hk2 hk2'
  have vX := val_limbs y.natAbs
  have vY := val_limbs z.natAbs
  simp (maxSteps := 1000000) (disch := first | exact sd | fail) only [go_sem, Nat.reduceAdd, Nat.reduceSub, Nat.reduceLeDiff, ↓reduceIte, decide_eq_true_eq, if_true, if_false, Bool.false_eq_true, Int.lt_irrefl, implies_true, true_and, and_true, eq_self, and_self, beq_self_eq_true, aw_plan (id := 4) pl63_4, pl63_4, aw_plan (id := 6) pl63_6, pl63_6, aw_plan (id := 7) pl63_7, pl63_7]
  refine (z148 (h.mono Hle.auto) (by omega)).mono ?_
  rintro r1 H1 ⟨hr1, h1⟩
  have n1 := h1.next
  try simp only [next_push, next_set, next_kill, wr_next] at n1
  have q1 : Hle H H1 := Hle.trans Hle.auto h1
  obtain ⟨s1, rfl, y1, u1⟩ := hr1.form
  have g1 : H1.get H.next = some (.row true 72 [.bool ng, sl]) := by simp (maxSteps := 1000000) (disch := first | exact sd | fail) only [go_sem, Nat.reduceAdd, Nat.reduceSub, Nat.reduceLeDiff, ↓reduceIte, decide_eq_true_eq, if_true, if_false, Bool.false_eq_true, Int.lt_irrefl, implies_true, true_and, and_true, eq_self, and_self, beq_self_eq_true, aw_plan (id := 4) pl63_4, pl63_4, aw_plan (id := 6) pl63_6, pl63_6, aw_plan (id := 7) pl63_7, pl63_7, h1.get]
  have u1a := u1.setbox g1 (.row true 72 [.bool (decide (y < 0)), s1])
  simp (maxSteps := 1000000) (disch := first | exact sd | fail) only [go_sem, Nat.reduceAdd, Nat.reduceSub, Nat.reduceLeDiff, ↓reduceIte, decide_eq_true_eq, if_true, if_false, Bool.false_eq_true, Int.lt_irrefl, implies_true, true_and, and_true, eq_self, and_self, beq_self_eq_true, aw_plan (id := 4) pl63_4, pl63_4, aw_plan (id := 6) pl63_6, pl63_6, aw_plan (id := 7) pl63_7, pl63_7, g1, h1.get]
  refine (z148 (h'.mono Hle.auto) (by omega)).mono ?_
  rintro r2 H2 ⟨hr2, h2⟩
  have n2 := h2.next
  try simp only [next_push, next_set, next_kill, wr_next] at n2
  have q2 : Hle H H2 := Hle.trans Hle.auto h2
  obtain ⟨s2, rfl, y2, u2⟩ := hr2.form
  have g2 : H2.get (H.next + 1) = some (.row true 72 [.bool mg, sm]) := by simp (maxSteps := 1000000) (disch := first | exact sd | fail) only [go_sem, Nat.reduceAdd, Nat.reduceSub, Nat.reduceLeDiff, ↓reduceIte, decide_eq_true_eq, if_true, if_false, Bool.false_eq_true, Int.lt_irrefl, implies_true, true_and, and_true, eq_self, and_self, beq_self_eq_true, aw_plan (id := 4) pl63_4, pl63_4, aw_plan (id := 6) pl63_6, pl63_6, aw_plan (id := 7) pl63_7, pl63_7, h1.get, h2.get]
  have u1b := U.setbox (U.mono u1a h2) g2 (.row true 72 [.bool (decide (z < 0)), s2])
  have u2b := u2.setbox g2 (.row true 72 [.bool (decide (z < 0)), s2])
  by_cases hs : decide (y < 0) = decide (z < 0)
  · simp (maxSteps := 1000000) (disch := first | exact sd | fail) only [go_sem, Nat.reduceAdd, Nat.reduceSub, Nat.reduceLeDiff, ↓reduceIte, decide_eq_true_eq, if_true, if_false, Bool.false_eq_true, Int.lt_irrefl, implies_true, true_and, and_true, eq_self, and_self, beq_self_eq_true, aw_plan (id := 4) pl63_4, pl63_4, aw_plan (id := 6) pl63_6, pl63_6, aw_plan (id := 7) pl63_7, pl63_7, g2, h1.get, h2.get, hs, aw_plan (id := 4) ⟨[0, 1, 2, 3, 4, 5], [(6, [1], []), (7, [], []), (8, [], [])]⟩]
    refine (c158 u1b u2b (lim_limbs _) (lim_limbs _) (by omega) (by omega)).mono ?_
    rintro s3 H3 ⟨l3, u3, m3, v3, e3, t3, h3⟩
    have n3 := h3.next
    try simp only [next_push, next_set, next_kill, wr_next] at n3
    have q3 : Hle H H3 := Hle.trans Hle.auto h3
    simp (maxSteps := 1000000) (disch := first | exact sd | fail) only [go_sem, Nat.reduceAdd, Nat.reduceSub, Nat.reduceLeDiff, ↓reduceIte, decide_eq_true_eq, if_true, if_false, Bool.false_eq_true, Int.lt_irrefl, implies_true, true_and, and_true, eq_self, and_self, beq_self_eq_true, aw_plan (id := 4) pl63_4, pl63_4, aw_plan (id := 6) pl63_6, pl63_6, aw_plan (id := 7) pl63_7, pl63_7, h1.get, h2.get, h3.get, g2, hs]
    have e : (if decide (z < 0) = true then -(val l3) else val l3) = y + z := by
      rw [v3, vX, vY]
      by_cases b0 : z < 0
      · have : y < 0 := by simpa [b0] using hs
        simp [b0]; omega
      · have : ¬ y < 0 := by simpa [b0] using hs
        simp [b0]; omega
    refine (z150 u3 m3 (by omega)).mono ?_
    rintro r H4 ⟨hr, h4⟩
    have n4 := h4.next
    try simp only [next_push, next_set, next_kill, wr_next] at n4
    have q4 : Hle H H4 := Hle.trans Hle.auto h4
    rw [e] at hr
    obtain ⟨sr, rfl, hy4, _⟩ := hr.form
    have g4 : H4.get (H.next + 1 + 1) = some (.row true 72 [.bool false, .slice none 0 0]) := by simp (maxSteps := 1000000) (disch := first | exact sd | fail) only [go_sem, Nat.reduceAdd, Nat.reduceSub, Nat.reduceLeDiff, ↓reduceIte, decide_eq_true_eq, if_true, if_false, Bool.false_eq_true, Int.lt_irrefl, implies_true, true_and, and_true, eq_self, and_self, beq_self_eq_true, aw_plan (id := 4) pl63_4, pl63_4, aw_plan (id := 6) pl63_6, pl63_6, aw_plan (id := 7) pl63_7, pl63_7, h1.get, h2.get, h3.get, h4.get]
    simp (maxSteps := 1000000) (disch := first | exact sd | fail) only [go_sem, Nat.reduceAdd, Nat.reduceSub, Nat.reduceLeDiff, ↓reduceIte, decide_eq_true_eq, if_true, if_false, Bool.false_eq_true, Int.lt_irrefl, implies_true, true_and, and_true, eq_self, and_self, beq_self_eq_true, aw_plan (id := 4) pl63_4, pl63_4, aw_plan (id := 6) pl63_6, pl63_6, aw_plan (id := 7) pl63_7, pl63_7, g4]
    exact ⟨hr.setbox g4 _, Hle.auto⟩
  · have hs2 : (decide (y < 0) == decide (z < 0)) = false := by simpa using hs
    simp (maxSteps := 1000000) (disch := first | exact sd | fail) only [go_sem, Nat.reduceAdd, Nat.reduceSub, Nat.reduceLeDiff, ↓reduceIte, decide_eq_true_eq, if_true, if_false, Bool.false_eq_true, Int.lt_irrefl, implies_true, true_and, and_true, eq_self, and_self, beq_self_eq_true, aw_plan (id := 4) pl63_4, pl63_4, aw_plan (id := 6) pl63_6, pl63_6, aw_plan (id := 7) pl63_7, pl63_7, g2, h1.get, h2.get, hs2]
    refine (c159 u1b u2b (lim_limbs _) (lim_limbs _) (top_limbs _) (top_limbs _) (by omega) (by omega)).mono ?_
    rintro _ _ ⟨rfl, rfl⟩
    rw [vX, vY]
    by_cases b5 : (0 : Int) ≤ sg ((y.natAbs : Int) - z.natAbs)
    · have h5' : (z.natAbs : Int) ≤ y.natAbs := by unfold sg at b5; split at b5 <;> omega
      simp (maxSteps := 1000000) (disch := first | exact sd | fail) only [go_sem, Nat.reduceAdd, Nat.reduceSub, Nat.reduceLeDiff, ↓reduceIte, decide_eq_true_eq, if_true, if_false, Bool.false_eq_true, Int.lt_irrefl, implies_true, true_and, and_true, eq_self, and_self, beq_self_eq_true, aw_plan (id := 4) pl63_4, pl63_4, aw_plan (id := 6) pl63_6, pl63_6, aw_plan (id := 7) pl63_7, pl63_7, g2, h1.get, h2.get, b5, aw_plan (id := 6) ⟨[0, 1, 2, 3, 4, 5], [(6, [1], []), (7, [], []), (8, [], [])]⟩]
      refine (c160 u1b u2b (lim_limbs _) (lim_limbs _) (by omega) (by exact ln_mono (a := z) (b := y) (by omega)) (by omega)).mono ?_
      rintro s3 H3 ⟨l3, u3, m3, v3, e3, t3, h3⟩
      have n3 := h3.next
      try simp only [next_push, next_set, next_kill, wr_next] at n3
      have q3 : Hle H H3 := Hle.trans Hle.auto h3
      simp (maxSteps := 1000000) (disch := first | exact sd | fail) only [go_sem, Nat.reduceAdd, Nat.reduceSub, Nat.reduceLeDiff, ↓reduceIte, decide_eq_true_eq, if_true, if_false, Bool.false_eq_true, Int.lt_irrefl, implies_true, true_and, and_true, eq_self, and_self, beq_self_eq_true, aw_plan (id := 4) pl63_4, pl63_4, aw_plan (id := 6) pl63_6, pl63_6, aw_plan (id := 7) pl63_7, pl63_7, h1.get, h2.get, h3.get, g2]
      have e : (if decide (y < 0) = true then -(val l3) else val l3) = y + z := by
        rw [v3, vX, vY]
        by_cases b0 : y < 0
        · have : ¬ z < 0 := by simpa [b0] using hs
          simp [b0]; omega
        · have : z < 0 := by simpa [b0] using hs
          simp [b0]; omega
      refine (z150 u3 m3 (by omega)).mono ?_
      rintro r H4 ⟨hr, h4⟩
      have n4 := h4.next
      try simp only [next_push, next_set, next_kill, wr_next] at n4
      have q4 : Hle H H4 := Hle.trans Hle.auto h4
      rw [e] at hr
      obtain ⟨sr, rfl, hy4, _⟩ := hr.form
      have g4 : H4.get (H.next + 1 + 1) = some (.row true 72 [.bool false, .slice none 0 0]) := by simp (maxSteps := 1000000) (disch := first | exact sd | fail) only [go_sem, Nat.reduceAdd, Nat.reduceSub, Nat.reduceLeDiff, ↓reduceIte, decide_eq_true_eq, if_true, if_false, Bool.false_eq_true, Int.lt_irrefl, implies_true, true_and, and_true, eq_self, and_self, beq_self_eq_true, aw_plan (id := 4) pl63_4, pl63_4, aw_plan (id := 6) pl63_6, pl63_6, aw_plan (id := 7) pl63_7, pl63_7, h1.get, h2.get, h3.get, h4.get]
      simp (maxSteps := 1000000) (disch := first | exact sd | fail) only [go_sem, Nat.reduceAdd, Nat.reduceSub, Nat.reduceLeDiff, ↓reduceIte, decide_eq_true_eq, if_true, if_false, Bool.false_eq_true, Int.lt_irrefl, implies_true, true_and, and_true, eq_self, and_self, beq_self_eq_true, aw_plan (id := 4) pl63_4, pl63_4, aw_plan (id := 6) pl63_6, pl63_6, aw_plan (id := 7) pl63_7, pl63_7, g4]
      exact ⟨hr.setbox g4 _, Hle.auto⟩
    · have h5' : (y.natAbs : Int) < z.natAbs := by unfold sg at b5; split at b5; omega; split at b5 <;> omega
      simp (maxSteps := 1000000) (disch := first | exact sd | fail) only [go_sem, Nat.reduceAdd, Nat.reduceSub, Nat.reduceLeDiff, ↓reduceIte, decide_eq_true_eq, if_true, if_false, Bool.false_eq_true, Int.lt_irrefl, implies_true, true_and, and_true, eq_self, and_self, beq_self_eq_true, aw_plan (id := 4) pl63_4, pl63_4, aw_plan (id := 6) pl63_6, pl63_6, aw_plan (id := 7) pl63_7, pl63_7, g2, h1.get, h2.get, b5, aw_plan (id := 7) ⟨[0, 1, 2, 3, 4, 5], [(6, [1], []), (7, [], []), (8, [], [])]⟩]
      refine (c160 u2b u1b (lim_limbs _) (lim_limbs _) (by omega) (by exact ln_mono (a := y) (b := z) (by omega)) (by omega)).mono ?_
      rintro s3 H3 ⟨l3, u3, m3, v3, e3, t3, h3⟩
      have n3 := h3.next
      try simp only [next_push, next_set, next_kill, wr_next] at n3
      have q3 : Hle H H3 := Hle.trans Hle.auto h3
      simp (maxSteps := 1000000) (disch := first | exact sd | fail) only [go_sem, Nat.reduceAdd, Nat.reduceSub, Nat.reduceLeDiff, ↓reduceIte, decide_eq_true_eq, if_true, if_false, Bool.false_eq_true, Int.lt_irrefl, implies_true, true_and, and_true, eq_self, and_self, beq_self_eq_true, aw_plan (id := 4) pl63_4, pl63_4, aw_plan (id := 6) pl63_6, pl63_6, aw_plan (id := 7) pl63_7, pl63_7, h1.get, h2.get, h3.get, g2]
      have e : (if decide (z < 0) = true then -(val l3) else val l3) = y + z := by
        rw [v3, vX, vY]
        by_cases b0 : z < 0
        · have : ¬ y < 0 := by intro h1; exact hs (by simp [b0, h1])
          simp [b0]; omega
        · have : y < 0 := by
            refine Classical.byContradiction fun h1 => hs (by simp [b0, h1])
          simp [b0]; omega
      refine (z150 u3 m3 (by omega)).mono ?_
      rintro r H4 ⟨hr, h4⟩
      have n4 := h4.next
      try simp only [next_push, next_set, next_kill, wr_next] at n4
      have q4 : Hle H H4 := Hle.trans Hle.auto h4
      rw [e] at hr
      obtain ⟨sr, rfl, hy4, _⟩ := hr.form
      have g4 : H4.get (H.next + 1 + 1) = some (.row true 72 [.bool false, .slice none 0 0]) := by simp (maxSteps := 1000000) (disch := first | exact sd | fail) only [go_sem, Nat.reduceAdd, Nat.reduceSub, Nat.reduceLeDiff, ↓reduceIte, decide_eq_true_eq, if_true, if_false, Bool.false_eq_true, Int.lt_irrefl, implies_true, true_and, and_true, eq_self, and_self, beq_self_eq_true, aw_plan (id := 4) pl63_4, pl63_4, aw_plan (id := 6) pl63_6, pl63_6, aw_plan (id := 7) pl63_7, pl63_7, h1.get, h2.get, h3.get, h4.get]
      simp (maxSteps := 1000000) (disch := first | exact sd | fail) only [go_sem, Nat.reduceAdd, Nat.reduceSub, Nat.reduceLeDiff, ↓reduceIte, decide_eq_true_eq, if_true, if_false, Bool.false_eq_true, Int.lt_irrefl, implies_true, true_and, and_true, eq_self, and_self, beq_self_eq_true, aw_plan (id := 4) pl63_4, pl63_4, aw_plan (id := 6) pl63_6, pl63_6, aw_plan (id := 7) pl63_7, pl63_7, g4]
      exact ⟨hr.setbox g4 _, Hle.auto⟩

theorem z65 {H : Heap} {v w : Value} {y z : Int} {K L : Nat} (h : IZ H v y K) (h' : IZ H w z L) (hK : K ≤ 2 ^ 40) (hL : L ≤ 2 ^ 40) : ACalls Tryz.prog 125 [v, w] H fun r H' => IN H' r (y * z) ∧ Hle H H' := by
  obtain ⟨ng, sl, rfl, hy0⟩ := h.form
  obtain ⟨mg, sm, rfl, hy0'⟩ := h'.form
  refine ACalls.of_code T.hm (n := 18) Tryz.func125 rfl rfl rfl rfl ?_; simp only [List.replicate_succ, List.replicate_zero, List.cons_append, List.nil_append]
  have hk := h.ln
  have hk' := h'.ln
  have hk2 := hk
  have hk2' := hk'
  unfold ln at hk2 hk2'
  have vX := val_limbs y.natAbs
  have vY := val_limbs z.natAbs
  simp (maxSteps := 1000000) (disch := first | exact sd | fail) only [go_sem, Nat.reduceAdd, Nat.reduceSub, Nat.reduceLeDiff, ↓reduceIte, decide_eq_true_eq, if_true, if_false, Bool.false_eq_true, Int.lt_irrefl, implies_true, true_and, and_true, eq_self, and_self, beq_self_eq_true, aw_plan (id := 3) pl65_3, pl65_3]
  refine (z148 (h.mono Hle.auto) (by omega)).mono ?_
  rintro r1 H1 ⟨hr1, h1⟩
  have n1 := h1.next
  try simp only [next_push, next_set, next_kill, wr_next] at n1
  have q1 : Hle H H1 := Hle.trans Hle.auto h1
  obtain ⟨s1, rfl, y1, u1⟩ := hr1.form
  have g1 : H1.get H.next = some (.row true 72 [.bool ng, sl]) := by simp (maxSteps := 1000000) (disch := first | exact sd | fail) only [go_sem, Nat.reduceAdd, Nat.reduceSub, Nat.reduceLeDiff, ↓reduceIte, decide_eq_true_eq, if_true, if_false, Bool.false_eq_true, Int.lt_irrefl, implies_true, true_and, and_true, eq_self, and_self, beq_self_eq_true, aw_plan (id := 3) pl65_3, pl65_3, h1.get]
  have u1a := u1.setbox g1 (.row true 72 [.bool (decide (y < 0)), s1])
  simp (maxSteps := 1000000) (disch := first | exact sd | fail) only [go_sem, Nat.reduceAdd, Nat.reduceSub, Nat.reduceLeDiff, ↓reduceIte, decide_eq_true_eq, if_true, if_false, Bool.false_eq_true, Int.lt_irrefl, implies_true, true_and, and_true, eq_self, and_self, beq_self_eq_true, aw_plan (id := 3) pl65_3, pl65_3, g1, h1.get]
  refine (z148 (h'.mono Hle.auto) (by omega)).mono ?_
  rintro r2 H2 ⟨hr2, h2⟩
  have n2 := h2.next
  try simp only [next_push, next_set, next_kill, wr_next] at n2
  have q2 : Hle H H2 := Hle.trans Hle.auto h2
  obtain ⟨s2, rfl, y2, u2⟩ := hr2.form
  have g2 : H2.get (H.next + 1) = some (.row true 72 [.bool mg, sm]) := by simp (maxSteps := 1000000) (disch := first | exact sd | fail) only [go_sem, Nat.reduceAdd, Nat.reduceSub, Nat.reduceLeDiff, ↓reduceIte, decide_eq_true_eq, if_true, if_false, Bool.false_eq_true, Int.lt_irrefl, implies_true, true_and, and_true, eq_self, and_self, beq_self_eq_true, aw_plan (id := 3) pl65_3, pl65_3, h1.get, h2.get]
  have u1b := U.setbox (U.mono u1a h2) g2 (.row true 72 [.bool (decide (z < 0)), s2])
  have u2b := u2.setbox g2 (.row true 72 [.bool (decide (z < 0)), s2])
  simp (maxSteps := 1000000) (disch := first | exact sd | fail) only [go_sem, Nat.reduceAdd, Nat.reduceSub, Nat.reduceLeDiff, ↓reduceIte, decide_eq_true_eq, if_true, if_false, Bool.false_eq_true, Int.lt_irrefl, implies_true, true_and, and_true, eq_self, and_self, beq_self_eq_true, aw_plan (id := 3) pl65_3, pl65_3, g2, h1.get, h2.get, aw_plan (id := 3) ⟨[0, 1, 2, 3, 4, 5, 6, 7, 8], [(9, [3, 1], []), (10, [], []), (11, [], [])]⟩]
  refine (c161 u1b u2b (lim_limbs _) (lim_limbs _) (by omega) (by omega)).mono ?_
  rintro s3 H3 ⟨l3, u3, m3, v3, e3, h3⟩
  have n3 := h3.next
  try simp only [next_push, next_set, next_kill, wr_next] at n3
  have q3 : Hle H H3 := Hle.trans Hle.auto h3
  simp (maxSteps := 1000000) (disch := first | exact sd | fail) only [go_sem, Nat.reduceAdd, Nat.reduceSub, Nat.reduceLeDiff, ↓reduceIte, decide_eq_true_eq, if_true, if_false, Bool.false_eq_true, Int.lt_irrefl, implies_true, true_and, and_true, eq_self, and_self, beq_self_eq_true, aw_plan (id := 3) pl65_3, pl65_3, h1.get, h2.get, h3.get, g2]
  refine (z150 u3 m3 (by omega)).mono ?_
  rintro r H4 ⟨hr, h4⟩
  have n4 := h4.next
  try simp only [next_push, next_set, next_kill, wr_next] at n4
  have q4 : Hle H H4 := Hle.trans Hle.auto h4
  rw [v3, vX, vY, mul_sign] at hr
  obtain ⟨sr, rfl, hy4, _⟩ := hr.form
  have g4 : H4.get (H.next + 1 + 1) = some (.row true 72 [.bool false, .slice none 0 0]) := by simp (maxSteps := 1000000) (disch := first | exact sd | fail) only [go_sem, Nat.reduceAdd, Nat.reduceSub, Nat.reduceLeDiff, ↓reduceIte, decide_eq_true_eq, if_true, if_false, Bool.false_eq_true, Int.lt_irrefl, implies_true, true_and, and_true, eq_self, and_self, beq_self_eq_true, aw_plan (id := 3) pl65_3, pl65_3, h1.get, h2.get, h3.get, h4.get]
  simp (maxSteps := 1000000) (disch := first | exact sd | fail) only [go_sem, Nat.reduceAdd, Nat.reduceSub, Nat.reduceLeDiff, ↓reduceIte, decide_eq_true_eq, if_true, if_false, Bool.false_eq_true, Int.lt_irrefl, implies_true, true_and, and_true, eq_self, and_self, beq_self_eq_true, aw_plan (id := 3) pl65_3, pl65_3, g4]
  exact ⟨hr.setbox g4 _, Hle.auto⟩

theorem z64 {H : Heap} {v w : Value} {y z : Int} {K L : Nat} (h : IZ H v y K) (h' : IZ H w z L) (hK : K ≤ 2 ^ 40) (hL : L ≤ 2 ^ 40) : ACalls Tryz.prog 124 [v, w] H fun r H' => IN H' r (y - z) ∧ Hle H H' := by
  obtain ⟨ng, sl, rfl, hy0⟩ := h.form
  obtain ⟨mg, sm, rfl, hy0'⟩ := h'.form
  refine ACalls.of_code T.hm (n := 7) Tryz.func124 rfl rfl rfl rfl ?_; simp only [List.replicate_succ, List.replicate_zero, List.cons_append, List.nil_append]
  simp (maxSteps := 1000000) (disch := first | exact sd | fail) only [go_sem, Nat.reduceAdd, Nat.reduceSub, Nat.reduceLeDiff, ↓reduceIte, decide_eq_true_eq, if_true, if_false, Bool.false_eq_true, Int.lt_irrefl, implies_true, true_and, and_true, eq_self, and_self, beq_self_eq_true, aw_plan (id := 1) pl64_1, pl64_1, aw_plan (id := 1) ⟨[0, 1], [(2, [0], []), (3, [], []), (4, [], [])]⟩]
  refine (z67 (h'.mono Hle.auto) (by omega)).mono ?_
  rintro r1 H1 ⟨hr1, h1⟩
  have n1 := h1.next
  try simp only [next_push, next_set, next_kill, wr_next] at n1
  have q1 : Hle H H1 := Hle.trans Hle.auto h1
  simp (maxSteps := 1000000) (disch := first | exact sd | fail) only [go_sem, Nat.reduceAdd, Nat.reduceSub, Nat.reduceLeDiff, ↓reduceIte, decide_eq_true_eq, if_true, if_false, Bool.false_eq_true, Int.lt_irrefl, implies_true, true_and, and_true, eq_self, and_self, beq_self_eq_true, aw_plan (id := 1) pl64_1, pl64_1, h1.get]
  refine (z63 (h.mono Hle.auto) hr1.iz (by omega) (by rw [ln_neg]; have := h'.ln; omega)).mono ?_
  rintro r H2 ⟨hr, h2⟩
  have n2 := h2.next
  try simp only [next_push, next_set, next_kill, wr_next] at n2
  have q2 : Hle H H2 := Hle.trans Hle.auto h2
  obtain ⟨sr, rfl, hy7, _⟩ := hr.form
  have hg7 : H2.get (H.next + 1 + 1) = some (.row true 72 [.bool false, .slice none 0 0]) := by simp (maxSteps := 1000000) (disch := first | exact sd | fail) only [go_sem, Nat.reduceAdd, Nat.reduceSub, Nat.reduceLeDiff, ↓reduceIte, decide_eq_true_eq, if_true, if_false, Bool.false_eq_true, Int.lt_irrefl, implies_true, true_and, and_true, eq_self, and_self, beq_self_eq_true, aw_plan (id := 1) pl64_1, pl64_1, h1.get, h2.get]
  simp (maxSteps := 1000000) (disch := first | exact sd | fail) only [go_sem, Nat.reduceAdd, Nat.reduceSub, Nat.reduceLeDiff, ↓reduceIte, decide_eq_true_eq, if_true, if_false, Bool.false_eq_true, Int.lt_irrefl, implies_true, true_and, and_true, eq_self, and_self, beq_self_eq_true, aw_plan (id := 1) pl64_1, pl64_1, h1.get, h2.get, hg7]
  exact ⟨hr.setbox hg7 _, Hle.auto⟩

end Go.Abs

/- More contracts as laws take them. -/
set_option linter.unusedVariables false
set_option linter.unusedSimpArgs false
namespace Go.Abs
open Go Go.Proofs
set_option maxRecDepth 100000
set_option maxHeartbeats 40000000
set_option linter.unusedSimpArgs false

theorem w67 {H : Heap} {v : Value} {z : Int} {K : Nat} (h : IZ H v z K) (hK : K ≤ 2 ^ 40) : ACalls Tryz.prog 122 [v] H fun r H' => IN H' r (-z) ∧ ln (-z) ≤ K ∧ Hle H H' :=
  (z67 h hK).mono fun r H' ⟨h1, h2⟩ => ⟨h1, by rw [ln_neg]; exact h.ln, h2⟩
theorem w63 {H : Heap} {v w : Value} {y z : Int} {K L : Nat} (h : IZ H v y K) (h' : IZ H w z L) (hK : K ≤ 2 ^ 40) (hL : L ≤ 2 ^ 40) : ACalls Tryz.prog 123 [v, w] H fun r H' => IN H' r (y + z) ∧ ln (y + z) ≤ max K L + 1 ∧ Hle H H' :=
  (z63 h h' hK hL).mono fun r H' ⟨h1, h2⟩ => ⟨h1, by have := ln_add y z; have := h.ln; have := h'.ln; omega, h2⟩
theorem w64 {H : Heap} {v w : Value} {y z : Int} {K L : Nat} (h : IZ H v y K) (h' : IZ H w z L) (hK : K ≤ 2 ^ 40) (hL : L ≤ 2 ^ 40) : ACalls Tryz.prog 124 [v, w] H fun r H' => IN H' r (y - z) ∧ ln (y - z) ≤ max K L + 1 ∧ Hle H H' :=
  (z64 h h' hK hL).mono fun r H' ⟨h1, h2⟩ => ⟨h1, by have := ln_sub y z; have := h.ln; have := h'.ln; omega, h2⟩
theorem w65 {H : Heap} {v w : Value} {y z : Int} {K L : Nat} (h : IZ H v y K) (h' : IZ H w z L) (hK : K ≤ 2 ^ 40) (hL : L ≤ 2 ^ 40) : ACalls Tryz.prog 125 [v, w] H fun r H' => IN H' r (y * z) ∧ ln (y * z) ≤ K + L ∧ Hle H H' :=
  (z65 h h' hK hL).mono fun r H' ⟨h1, h2⟩ => ⟨h1, by have := ln_mul y z; have := h.ln; have := h'.ln; omega, h2⟩
/-- A number's limbs, copied. -/
theorem copied {H : Heap} {sl : Value} {l : List Int} (hu : U Tryz.prog H sl l) (hb : l.length ≤ 2 ^ 40) :
    aAppend Tryz.prog (H.push (.row true 177 [])) #[70, 70] (.slice (some ⟨H.next, 0, none⟩) 0 0) sl = some (apV Tryz.prog (H.push (.row true 177 [])) #[70, 70] (.slice (some ⟨H.next, 0, none⟩) 0 0) sl, apH Tryz.prog (H.push (.row true 177 [])) #[70, 70] (.slice (some ⟨H.next, 0, none⟩) 0 0) sl) ∧
      UO Tryz.prog H (apH Tryz.prog (H.push (.row true 177 [])) #[70, 70] (.slice (some ⟨H.next, 0, none⟩) 0 0) sl) (apV Tryz.prog (H.push (.row true 177 [])) #[70, 70] (.slice (some ⟨H.next, 0, none⟩) 0 0) sl) l ∧ Hle H (apH Tryz.prog (H.push (.row true 177 [])) #[70, 70] (.slice (some ⟨H.next, 0, none⟩) 0 0) sl) := by
  have h1 : UO Tryz.prog H (H.push (.row true 177 [])) (.slice (some ⟨H.next, 0, none⟩) 0 0) [] := UO.fresh Hle.rfl rfl (by simp [unk]) (by simp)
  obtain ⟨h2, h3, h4, _⟩ := h1.append (Hle.push0 _) (hu.mono (Hle.push0 _)) (by simp; omega)
  exact ⟨h2, h3, h4⟩
theorem aApp_blk {P : Program} {H H' : Heap} {el : TypeId} {bytes : Nat} {news : List Value} {m : Nat} {base : Option Addr} {n c : Nat} {v : Value} (h : aApp P H el bytes news m base n c = some (v, H')) : sblk v = sblk (.slice base n c) ∨ sblk v = H.next := by
  unfold aApp at h
  repeat' split at h
  all_goals first
    | cases h; done
    | (simp only [Option.some.injEq, Prod.mk.injEq] at h; obtain ⟨rfl, _⟩ := h; simp [sblk])
theorem aMade_blk {P : Program} {H H' : Heap} {sT : TypeId} {ats : Array TypeId} {base : Option Addr} {n c : Nat} {x v : Value} (h : aMade P H sT ats base n c x = some (v, H')) : sblk v = sblk (.slice base n c) ∨ sblk v = H.next := by
  unfold aMade at h
  repeat' split at h
  all_goals first
    | cases h; done
    | exact aApp_blk h
theorem append_blk {P : Program} {H H' : Heap} {ats : Array TypeId} {s x v : Value} (h : aAppend P H ats s x = some (v, H')) : sblk v = sblk s ∨ sblk v = H.next := by
  unfold aAppend at h
  repeat' split at h
  all_goals first
    | cases h; done
    | exact aApp_blk h
    | exact aMade_blk h
end Go.Abs
