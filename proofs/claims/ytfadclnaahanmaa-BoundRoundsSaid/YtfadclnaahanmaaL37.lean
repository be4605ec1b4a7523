/- BoundRounds, on values. -/
import Derived.Test.YtfadclnaahanmaaO8
set_option linter.unusedVariables false
set_option linter.unusedSimpArgs false
namespace Go.Abs
open Go Go.Proofs
set_option maxRecDepth 100000
set_option maxHeartbeats 4000000
def plL37_37_3 : Plan := ⟨[0, 1, 3, 4], [(2, [3], []), (5, [], []), (6, [], [7]), (8, [], [9, 10])]⟩
theorem p134 : PC Try.prog 22 [] (.bool true) := PC.reckoned T.hm (n := 100000) (by kernel_rfl)
theorem rnd_ln {l : RW} {r : Int} (h : okW l = true → True) : ln (rndV l r) ≤ 2 ^ 30 := by
  unfold rndV
  cases hw : okW l with
  | false => rw [if_neg (by decide), ln_zero]; omega
  | true =>
    obtain ⟨w1, w2, _, w4, _⟩ := okW_len hw
    rw [if_pos rfl]
    have hn := fewN_le r
    have hp2 : l.locs.length * fewN r ≤ 1600 := Nat.mul_le_mul (show _ ≤ 40 by omega) hn
    have h1 := ln_small (z := ((l.locs.length * fewN r + 1 : Nat) : Int)) (by omega)
    have h2 := ln_prd' (a := ((l.locs.length * fewN r + 1 : Nat) : Int)) (l := alls l.edges (fewN r) l.locs.length) (by omega) (alls_mem w4)
    rw [alls_len] at h2
    omega
theorem q37 {l : RW} {r : Int} (h : LimW l) : PC Try.prog 5 [Wv l, .int .i64 r] (.bool true) := by
  refine PC.of (.cons pu_W (.cons (.ground rfl) .nil)) (.ground rfl) fun N hN => ?_
  have q1 := p133 h
  have q2 := @p135 l r h
  have q3 := @p136 l r h
  have hl := rnd_ln (l := l) (r := r) fun _ => trivial
  generalize rndV l r = z at *
  obtain ⟨L, S, E, V⟩ := l
  unfold Wv at *
  try dsimp only at *
  refine ACalls.of_code T.hm (n := 16) Try.func5 rfl rfl rfl rfl ?_; simp only [List.replicate_succ, List.replicate_zero, List.cons_append, List.nil_append]
  simp (maxSteps := 1000000) (disch := first | exact sd | fail) only [go_sem, Nat.reduceAdd, Nat.reduceSub, Nat.reduceLeDiff, ↓reduceIte, decide_eq_true_eq, if_true, if_false, Bool.false_eq_true, Int.lt_irrefl, implies_true, true_and, and_true, eq_self, and_self, beq_self_eq_true, aw_plan (id := 3) plL37_37_3, plL37_37_3]
  refine PK.step q1 ?_
  rintro _ m1 ⟨b, rfl, hb⟩ j1
  cases b with
  | true =>
    simp (maxSteps := 1000000) (disch := first | exact sd | fail) only [go_sem, Nat.reduceAdd, Nat.reduceSub, Nat.reduceLeDiff, ↓reduceIte, decide_eq_true_eq, if_true, if_false, Bool.false_eq_true, Int.lt_irrefl, implies_true, true_and, and_true, eq_self, and_self, beq_self_eq_true, aw_plan (id := 3) plL37_37_3, plL37_37_3]
    refine PC.step (p134) fun m2 j2 => ?_
    try simp only [Heap.next_push, Heap.next_set, Heap.next_kill, next_bump, next_E0] at j2
    simp (maxSteps := 1000000) (disch := first | exact sd | fail) only [go_sem, Nat.reduceAdd, Nat.reduceSub, Nat.reduceLeDiff, ↓reduceIte, decide_eq_true_eq, if_true, if_false, Bool.false_eq_true, Int.lt_irrefl, implies_true, true_and, and_true, eq_self, and_self, beq_self_eq_true, aw_plan (id := 3) plL37_37_3, plL37_37_3]
    exact .rfl
  | false =>
    have q2 := q2 (hb rfl)
    have q3 := q3 (hb rfl)
    simp (maxSteps := 1000000) (disch := first | exact sd | fail) only [go_sem, Nat.reduceAdd, Nat.reduceSub, Nat.reduceLeDiff, ↓reduceIte, decide_eq_true_eq, if_true, if_false, Bool.false_eq_true, Int.lt_irrefl, implies_true, true_and, and_true, eq_self, and_self, beq_self_eq_true, aw_plan (id := 3) plL37_37_3, plL37_37_3]
    refine PC.step (q2) fun m2 j2 => ?_
    try simp only [Heap.next_push, Heap.next_set, Heap.next_kill, next_bump, next_E0] at j2
    simp (maxSteps := 1000000) (disch := first | exact sd | fail) only [go_sem, Nat.reduceAdd, Nat.reduceSub, Nat.reduceLeDiff, ↓reduceIte, decide_eq_true_eq, if_true, if_false, Bool.false_eq_true, Int.lt_irrefl, implies_true, true_and, and_true, eq_self, and_self, beq_self_eq_true, aw_plan (id := 3) plL37_37_3, plL37_37_3]
    refine PC.step (q3) fun m3 j3 => ?_
    try simp only [Heap.next_push, Heap.next_set, Heap.next_kill, next_bump, next_E0] at j3
    simp (maxSteps := 1000000) (disch := first | exact sd | fail) only [go_sem, Nat.reduceAdd, Nat.reduceSub, Nat.reduceLeDiff, ↓reduceIte, decide_eq_true_eq, if_true, if_false, Bool.false_eq_true, Int.lt_irrefl, implies_true, true_and, and_true, eq_self, and_self, beq_self_eq_true, aw_plan (id := 3) plL37_37_3, plL37_37_3]
    refine PC.step (p44t (a := z) (b := z) (by omega) rfl) fun m4 j4 => ?_
    try simp only [Heap.next_push, Heap.next_set, Heap.next_kill, next_bump, next_E0] at j4
    simp (maxSteps := 1000000) (disch := first | exact sd | fail) only [go_sem, Nat.reduceAdd, Nat.reduceSub, Nat.reduceLeDiff, ↓reduceIte, decide_eq_true_eq, if_true, if_false, Bool.false_eq_true, Int.lt_irrefl, implies_true, true_and, and_true, eq_self, and_self, beq_self_eq_true, aw_plan (id := 3) plL37_37_3, plL37_37_3]
    refine PC.step (p134) fun m5 j5 => ?_
    try simp only [Heap.next_push, Heap.next_set, Heap.next_kill, next_bump, next_E0] at j5
    simp (maxSteps := 1000000) (disch := first | exact sd | fail) only [go_sem, Nat.reduceAdd, Nat.reduceSub, Nat.reduceLeDiff, ↓reduceIte, decide_eq_true_eq, if_true, if_false, Bool.false_eq_true, Int.lt_irrefl, implies_true, true_and, and_true, eq_self, and_self, beq_self_eq_true, aw_plan (id := 3) plL37_37_3, plL37_37_3]
    exact .rfl
theorem lawBoundRounds {H : Heap} {xs : List Value} (hf : ∀ b, H.next ≤ b → H.get b = none) (hg : GoodArgs Try.prog H 12 [35, 3] xs) : ACalls Try.prog 5 xs H fun v _ => v = .bool true := by
  obtain ⟨ps, h1, h2, h3⟩ := args_frz hf (by intro t ht; simp only [List.mem_cons, List.not_mem_nil, or_false] at ht; rcases ht with rfl | rfl <;> kernel_rfl) hg
  obtain ⟨p0, ps0, rfl, a0, r0⟩ := h3.cons
  obtain ⟨l, rfl, hl⟩ := a0.low
  obtain ⟨p1, ps1, rfl, a1, r1⟩ := r0.cons
  obtain ⟨r, rfl, hr⟩ := a1.int Try.underlying3
  obtain rfl := r1.nil
  exact (q37 hl).law h1
end Go.Abs
