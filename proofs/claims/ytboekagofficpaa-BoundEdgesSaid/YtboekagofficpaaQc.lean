/- Joined: Q3, Q5. -/
import Derived.Test.YtboekagofficpaaQb
import Derived.Test.YtboekagofficpaaN26
import Derived.Test.YtboekagofficpaaBg
import Derived.Test.YtboekagofficpaaA30
/- Quotients, and what divides both: calls of values. -/
set_option linter.unusedVariables false
set_option linter.unusedSimpArgs false
namespace Go.Abs
open Go Go.Proofs
set_option maxRecDepth 100000
set_option maxHeartbeats 40000000

def pl42_1 : Plan := ⟨[0, 2], [(1, [2], []), (3, [], [4, 5])]⟩
def pl42_8 : Plan := ⟨[0, 2, 5, 7, 9, 10], [(1, [7, 2], []), (3, [7], [4]), (6, [7], []), (8, [], []), (11, [], []), (12, [], []), (13, [], [14])]⟩
def pl42_10 : Plan := ⟨[0, 2, 5, 7, 9], [(1, [7, 2], []), (3, [7], [4]), (6, [7], []), (8, [], []), (10, [], []), (11, [], []), (12, [], [13])]⟩
def pl46_1 : Plan := ⟨[0, 3, 6, 7], [(1, [3], []), (2, [3], []), (4, [], []), (5, [], []), (8, [], []), (9, [], [])]⟩
def pl46_4 : Plan := ⟨[0, 1], [(2, [1], []), (3, [], [])]⟩
theorem sg_neg {x : Int} : (sg x < 0) ↔ x < 0 := by
  unfold sg; split
  · omega
  · split <;> omega
theorem fz_nil0 {H : Heap} : FzRel Try.prog H (.agg ⟨[.bool (sgn 0), Vv eU (lmb 0)]⟩) (.agg ⟨[.bool false, .slice none 0 0]⟩) := by rw [lmb_zero]; exact fz_nil
theorem p147 {A B : Int} (hA : 0 ≤ A) (hB : 4294967296 ≤ B) (hAB : B ≤ A) (bA : ln A ≤ 2 ^ 39) :
    PK Try.prog 81 [Vv eU (lmb A), Vv eU (lmb B)] fun r => ∃ l m, r = .tuple ⟨[Vv eU l, Vv eU m]⟩ ∧ Lb l ∧ Lb m ∧ val l = A / B ∧ val m = A % B := by
  have e1 : (lmb A).length = ln A := rfl
  have e2 : (lmb B).length = ln B := rfl
  have h3 := ln_two (B := B) (by omega)
  have h4 : ln B ≤ ln A := ln_mono (by omega)
  refine PK.u2 ⟨_, Try.func81, rfl, rfl⟩ fun H v w hu hv => (c147 hu hv (lim_z A) (lim_z B) (by omega) (by omega) (by omega) (top_z (by omega))).mono ?_
  rintro r H' ⟨s, t, l, m, rfl, k1, k2, k3, k4, k5, k6, k7, k8, k9⟩
  rw [val_z, val_z] at k5 k6
  exact ⟨_, .tuple (.cons (.ofU k1) (.cons (.ofU k2) .nil)), .tuple (.cons pu_U (.cons pu_U .nil)), l, m, rfl, ⟨k3, by omega⟩, ⟨k4, by omega⟩, by rw [k5]; congr 1 <;> omega, by rw [k6]; congr 1 <;> omega⟩

theorem p42z {n m : Bool} {l k : List Int} (h1 : Lb l) (h2 : Lb k) (h0 : den m k = 0) : PC Try.prog 74 [In n l, In m k] (.tuple ⟨[Zn 0, Zn 0, .int .i64 1]⟩) := by
  refine PC.of (.cons pu_in (.cons pu_in .nil)) pu_div fun N hN => ?_
  refine ACalls.of_code T.hm (n := 72) Try.func74 rfl rfl rfl rfl ?_; simp only [List.replicate_succ, List.replicate_zero, List.cons_append, List.nil_append]
  simp (maxSteps := 1000000) (disch := first | exact sd | fail) only [go_sem, Nat.reduceAdd, Nat.reduceSub, Nat.reduceLeDiff, ↓reduceIte, decide_eq_true_eq, if_true, if_false, Bool.false_eq_true, Int.lt_irrefl, implies_true, true_and, and_true, eq_self, and_self, beq_self_eq_true, aw_plan (id := 1) pl42_1, pl42_1, aw_plan (id := 8) pl42_8, pl42_8, aw_plan (id := 10) pl42_10, pl42_10]
  refine PC.step (p142 h1) fun m1 j1 => ?_
  try simp only [Heap.next_push, Heap.next_set, Heap.next_kill, next_bump, next_E0] at j1
  simp (maxSteps := 1000000) (disch := first | exact sd | fail) only [go_sem, Nat.reduceAdd, Nat.reduceSub, Nat.reduceLeDiff, ↓reduceIte, decide_eq_true_eq, if_true, if_false, Bool.false_eq_true, Int.lt_irrefl, implies_true, true_and, and_true, eq_self, and_self, beq_self_eq_true, aw_plan (id := 1) pl42_1, pl42_1, aw_plan (id := 8) pl42_8, pl42_8, aw_plan (id := 10) pl42_10, pl42_10]
  refine PC.step (p142 h2) fun m2 j2 => ?_
  try simp only [Heap.next_push, Heap.next_set, Heap.next_kill, next_bump, next_E0] at j2
  simp (maxSteps := 1000000) (disch := first | exact sd | fail) only [go_sem, Nat.reduceAdd, Nat.reduceSub, Nat.reduceLeDiff, ↓reduceIte, decide_eq_true_eq, if_true, if_false, Bool.false_eq_true, Int.lt_irrefl, implies_true, true_and, and_true, eq_self, and_self, beq_self_eq_true, aw_plan (id := 1) pl42_1, pl42_1, aw_plan (id := 8) pl42_8, pl42_8, aw_plan (id := 10) pl42_10, pl42_10, h0, lmb_zero, List.length_nil, ln_zero]
  exact .tuple (.cons fz_nil (.cons fz_nil (.cons .rfl .nil)))

theorem p42 {n m : Bool} {l k : List Int} (h1 : Lb l) (h2 : Lb k) (bA : ln (den n l) ≤ 2 ^ 39) (bB : ln (den m k) ≤ 2 ^ 39) (h0 : den m k ≠ 0) :
    PC Try.prog 74 [In n l, In m k] (.tuple ⟨[Zn ((den n l).tdiv (den m k)), Zn ((den n l).tmod (den m k)), .int .i64 0]⟩) := by
  refine PC.of (.cons pu_in (.cons pu_in .nil)) pu_div fun N hN => ?_
  have q1 := p145 (n := n) h1
  have q2 := p145 (n := m) h2
  generalize hA : den n l = A at *
  generalize hB : den m k = B at *
  have hne : ¬ (ln B : Int) = 0 := by rw [Int.ofNat_eq_zero, ln_eq_zero]; exact h0
  refine ACalls.of_code T.hm (n := 72) Try.func74 rfl rfl rfl rfl ?_; simp only [List.replicate_succ, List.replicate_zero, List.cons_append, List.nil_append]
  simp (maxSteps := 1000000) (disch := first | exact sd | fail) only [go_sem, Nat.reduceAdd, Nat.reduceSub, Nat.reduceLeDiff, ↓reduceIte, decide_eq_true_eq, if_true, if_false, Bool.false_eq_true, Int.lt_irrefl, implies_true, true_and, and_true, eq_self, and_self, beq_self_eq_true, aw_plan (id := 1) pl42_1, pl42_1, aw_plan (id := 8) pl42_8, pl42_8, aw_plan (id := 10) pl42_10, pl42_10]
  refine PC.step (hA ▸ p142 (n := n) h1) fun m1 j1 => ?_
  try simp only [Heap.next_push, Heap.next_set, Heap.next_kill, next_bump, next_E0] at j1
  simp (maxSteps := 1000000) (disch := first | exact sd | fail) only [go_sem, Nat.reduceAdd, Nat.reduceSub, Nat.reduceLeDiff, ↓reduceIte, decide_eq_true_eq, if_true, if_false, Bool.false_eq_true, Int.lt_irrefl, implies_true, true_and, and_true, eq_self, and_self, beq_self_eq_true, aw_plan (id := 1) pl42_1, pl42_1, aw_plan (id := 8) pl42_8, pl42_8, aw_plan (id := 10) pl42_10, pl42_10]
  refine PC.step (hB ▸ p142 (n := m) h2) fun m2 j2 => ?_
  try simp only [Heap.next_push, Heap.next_set, Heap.next_kill, next_bump, next_E0] at j2
  simp (maxSteps := 1000000) (disch := first | exact sd | fail) only [go_sem, Nat.reduceAdd, Nat.reduceSub, Nat.reduceLeDiff, ↓reduceIte, decide_eq_true_eq, if_true, if_false, Bool.false_eq_true, Int.lt_irrefl, implies_true, true_and, and_true, eq_self, and_self, beq_self_eq_true, aw_plan (id := 1) pl42_1, pl42_1, aw_plan (id := 8) pl42_8, pl42_8, aw_plan (id := 10) pl42_10, pl42_10, hne]
  refine PC.step (p143 (lb_z (by omega)) (lb_z (by omega)) (top_limbs _) (top_limbs _)) fun m3 j3 => ?_
  try simp only [Heap.next_push, Heap.next_set, Heap.next_kill, next_bump, next_E0] at j3
  rw [val_z, val_z]
  have lq := ln_quo A B
  have lr := ln_rem A h0
  by_cases c1 : sg ((A.natAbs : Int) - B.natAbs) < 0
  · have c1' : A.natAbs < B.natAbs := by rw [sg_neg] at c1; omega
    simp (maxSteps := 1000000) (disch := first | exact sd | fail) only [go_sem, Nat.reduceAdd, Nat.reduceSub, Nat.reduceLeDiff, ↓reduceIte, decide_eq_true_eq, if_true, if_false, Bool.false_eq_true, Int.lt_irrefl, implies_true, true_and, and_true, eq_self, and_self, beq_self_eq_true, aw_plan (id := 1) pl42_1, pl42_1, aw_plan (id := 8) pl42_8, pl42_8, aw_plan (id := 10) pl42_10, pl42_10, c1]
    refine PC.step (q1) fun m4 j4 => ?_
    try simp only [Heap.next_push, Heap.next_set, Heap.next_kill, next_bump, next_E0] at j4
    simp (maxSteps := 1000000) (disch := first | exact sd | fail) only [go_sem, Nat.reduceAdd, Nat.reduceSub, Nat.reduceLeDiff, ↓reduceIte, decide_eq_true_eq, if_true, if_false, Bool.false_eq_true, Int.lt_irrefl, implies_true, true_and, and_true, eq_self, and_self, beq_self_eq_true, aw_plan (id := 1) pl42_1, pl42_1, aw_plan (id := 8) pl42_8, pl42_8, aw_plan (id := 10) pl42_10, pl42_10]
    refine PC.step (p144 (lb_z (by omega))) fun m5 j5 => ?_
    try simp only [Heap.next_push, Heap.next_set, Heap.next_kill, next_bump, next_E0] at j5
    have e1 : A.tdiv B = 0 := by
      rw [← tdiv_signs, Int.ediv_eq_zero_of_lt (by omega) (by omega)]; simp
    have e2 : A.tmod B = if sgn A = true then -(val (lmb A)) else val (lmb A) := by
      rw [← tmod_signs, Int.emod_eq_of_lt (by omega) (by omega), val_z]
    rw [← e2, e1]
    simp (maxSteps := 1000000) (disch := first | exact sd | fail) only [go_sem, Nat.reduceAdd, Nat.reduceSub, Nat.reduceLeDiff, ↓reduceIte, decide_eq_true_eq, if_true, if_false, Bool.false_eq_true, Int.lt_irrefl, implies_true, true_and, and_true, eq_self, and_self, beq_self_eq_true, aw_plan (id := 1) pl42_1, pl42_1, aw_plan (id := 8) pl42_8, pl42_8, aw_plan (id := 10) pl42_10, pl42_10]
    exact .tuple (.cons fz_nil0 (.cons .rfl (.cons .rfl .nil)))
  have c1' : B.natAbs ≤ A.natAbs := by
    rcases Nat.lt_or_ge A.natAbs B.natAbs with h | h
    · exact absurd (sg_neg.2 (by omega)) c1
    · exact h
  by_cases c2 : (ln B : Int) = 1
  · obtain ⟨d, hd⟩ : ∃ d, lmb B = [d] := by
      have : (lmb B).length = 1 := by show ln B = 1; omega
      match lmb B, this with
      | [d], _ => exact ⟨d, rfl⟩
    have hdB : d = (B.natAbs : Int) := by
      have := val_z B
      rw [hd, val_one] at this
      exact this
    have hdl := lim_z B
    rw [hd] at hdl
    have hdb := hdl.head
    simp (maxSteps := 1000000) (disch := first | exact sd | fail) only [go_sem, Nat.reduceAdd, Nat.reduceSub, Nat.reduceLeDiff, ↓reduceIte, decide_eq_true_eq, if_true, if_false, Bool.false_eq_true, Int.lt_irrefl, implies_true, true_and, and_true, eq_self, and_self, beq_self_eq_true, aw_plan (id := 1) pl42_1, pl42_1, aw_plan (id := 8) pl42_8, pl42_8, aw_plan (id := 10) pl42_10, pl42_10, c1, c2, hd, List.getD_cons_zero, List.length_cons, List.length_nil]
    refine PK.step (p146 (l := lmb A) (d := d) (lb_z (by omega)) (by omega)) fun r m4 hr j4 => ?_
    obtain ⟨o, rfl, bo, vo⟩ := hr
    try simp only [Heap.next_push, Heap.next_set, Heap.next_kill, next_bump, next_E0] at j4
    rw [val_z, hdB] at *
    simp (maxSteps := 1000000) (disch := first | exact sd | fail) only [go_sem, Nat.reduceAdd, Nat.reduceSub, Nat.reduceLeDiff, ↓reduceIte, decide_eq_true_eq, if_true, if_false, Bool.false_eq_true, Int.lt_irrefl, implies_true, true_and, and_true, eq_self, and_self, beq_self_eq_true, aw_plan (id := 1) pl42_1, pl42_1, aw_plan (id := 8) pl42_8, pl42_8, aw_plan (id := 10) pl42_10, pl42_10]
    refine PC.step (q1) fun m5 j5 => ?_
    try simp only [Heap.next_push, Heap.next_set, Heap.next_kill, next_bump, next_E0] at j5
    simp (maxSteps := 1000000) (disch := first | exact sd | fail) only [go_sem, Nat.reduceAdd, Nat.reduceSub, Nat.reduceLeDiff, ↓reduceIte, decide_eq_true_eq, if_true, if_false, Bool.false_eq_true, Int.lt_irrefl, implies_true, true_and, and_true, eq_self, and_self, beq_self_eq_true, aw_plan (id := 1) pl42_1, pl42_1, aw_plan (id := 8) pl42_8, pl42_8, aw_plan (id := 10) pl42_10, pl42_10]
    refine PC.step (q2) fun m6 j6 => ?_
    try simp only [Heap.next_push, Heap.next_set, Heap.next_kill, next_bump, next_E0] at j6
    simp (maxSteps := 1000000) (disch := first | exact sd | fail) only [go_sem, Nat.reduceAdd, Nat.reduceSub, Nat.reduceLeDiff, ↓reduceIte, decide_eq_true_eq, if_true, if_false, Bool.false_eq_true, Int.lt_irrefl, implies_true, true_and, and_true, eq_self, and_self, beq_self_eq_true, aw_plan (id := 1) pl42_1, pl42_1, aw_plan (id := 8) pl42_8, pl42_8, aw_plan (id := 10) pl42_10, pl42_10]
    refine PC.step (p144 bo) fun m7 j7 => ?_
    try simp only [Heap.next_push, Heap.next_set, Heap.next_kill, next_bump, next_E0] at j7
    rw [vo, tdiv_signs]
    simp (maxSteps := 1000000) (disch := first | exact sd | fail) only [go_sem, Nat.reduceAdd, Nat.reduceSub, Nat.reduceLeDiff, ↓reduceIte, decide_eq_true_eq, if_true, if_false, Bool.false_eq_true, Int.lt_irrefl, implies_true, true_and, and_true, eq_self, and_self, beq_self_eq_true, aw_plan (id := 1) pl42_1, pl42_1, aw_plan (id := 8) pl42_8, pl42_8, aw_plan (id := 10) pl42_10, pl42_10]
    refine PC.step (q1) fun m8 j8 => ?_
    try simp only [Heap.next_push, Heap.next_set, Heap.next_kill, next_bump, next_E0] at j8
    simp (maxSteps := 1000000) (disch := first | exact sd | fail) only [go_sem, Nat.reduceAdd, Nat.reduceSub, Nat.reduceLeDiff, ↓reduceIte, decide_eq_true_eq, if_true, if_false, Bool.false_eq_true, Int.lt_irrefl, implies_true, true_and, and_true, eq_self, and_self, beq_self_eq_true, aw_plan (id := 1) pl42_1, pl42_1, aw_plan (id := 8) pl42_8, pl42_8, aw_plan (id := 10) pl42_10, pl42_10]
    have hm := Int.emod_nonneg (A.natAbs : Int) (show (B.natAbs : Int) ≠ 0 by omega)
    have hm2 := Int.emod_lt_of_pos (A.natAbs : Int) (show (0 : Int) < (B.natAbs : Int) by omega)
    refine ACalls.frz (ps := [_]) (es := 1) (n := 1) (own := true) (el := 66) (cells := [.int .u32 (↑A.natAbs % ↑B.natAbs)]) (by simp (maxSteps := 1000000) (disch := first | exact sd | fail) only [go_sem, Nat.reduceAdd, Nat.reduceSub, Nat.reduceLeDiff, ↓reduceIte, decide_eq_true_eq, if_true, if_false, Bool.false_eq_true, Int.lt_irrefl, implies_true, true_and, and_true, eq_self, and_self, beq_self_eq_true, aw_plan (id := 1) pl42_1, pl42_1, aw_plan (id := 8) pl42_8, pl42_8, aw_plan (id := 10) pl42_10, pl42_10]) (.inr (Nat.le_refl _)) Nat.one_pos (Nat.le_refl _) ?_
    refine PC.step (p144 (n := sgn A) (l := [(A.natAbs : Int) % B.natAbs]) ⟨Lim.cons (by omega) Lim.nil, by simp⟩) fun m9 j9 => ?_
    try simp only [Heap.next_push, Heap.next_set, Heap.next_kill, next_bump, next_E0] at j9
    rw [val_one, tmod_signs]
    simp (maxSteps := 1000000) (disch := first | exact sd | fail) only [go_sem, Nat.reduceAdd, Nat.reduceSub, Nat.reduceLeDiff, ↓reduceIte, decide_eq_true_eq, if_true, if_false, Bool.false_eq_true, Int.lt_irrefl, implies_true, true_and, and_true, eq_self, and_self, beq_self_eq_true, aw_plan (id := 1) pl42_1, pl42_1, aw_plan (id := 8) pl42_8, pl42_8, aw_plan (id := 10) pl42_10, pl42_10]
    exact .rfl
  · have c2' : 4294967296 ≤ B.natAbs := by
      rcases Nat.lt_or_ge B.natAbs 4294967296 with h | h
      · have := ln_small h; omega
      · exact h
    simp (maxSteps := 1000000) (disch := first | exact sd | fail) only [go_sem, Nat.reduceAdd, Nat.reduceSub, Nat.reduceLeDiff, ↓reduceIte, decide_eq_true_eq, if_true, if_false, Bool.false_eq_true, Int.lt_irrefl, implies_true, true_and, and_true, eq_self, and_self, beq_self_eq_true, aw_plan (id := 1) pl42_1, pl42_1, aw_plan (id := 8) pl42_8, pl42_8, aw_plan (id := 10) pl42_10, pl42_10, c1, c2]
    refine PK.step (p147 (A := (A.natAbs : Int)) (B := (B.natAbs : Int)) (by omega) (by omega) (by omega) (by exact bA)) fun r m4 hr j4 => ?_
    obtain ⟨o, u, rfl, bo, bu, vo, vu⟩ := hr
    try simp only [Heap.next_push, Heap.next_set, Heap.next_kill, next_bump, next_E0] at j4
    simp (maxSteps := 1000000) (disch := first | exact sd | fail) only [go_sem, Nat.reduceAdd, Nat.reduceSub, Nat.reduceLeDiff, ↓reduceIte, decide_eq_true_eq, if_true, if_false, Bool.false_eq_true, Int.lt_irrefl, implies_true, true_and, and_true, eq_self, and_self, beq_self_eq_true, aw_plan (id := 1) pl42_1, pl42_1, aw_plan (id := 8) pl42_8, pl42_8, aw_plan (id := 10) pl42_10, pl42_10]
    refine PC.step (q1) fun m5 j5 => ?_
    try simp only [Heap.next_push, Heap.next_set, Heap.next_kill, next_bump, next_E0] at j5
    simp (maxSteps := 1000000) (disch := first | exact sd | fail) only [go_sem, Nat.reduceAdd, Nat.reduceSub, Nat.reduceLeDiff, ↓reduceIte, decide_eq_true_eq, if_true, if_false, Bool.false_eq_true, Int.lt_irrefl, implies_true, true_and, and_true, eq_self, and_self, beq_self_eq_true, aw_plan (id := 1) pl42_1, pl42_1, aw_plan (id := 8) pl42_8, pl42_8, aw_plan (id := 10) pl42_10, pl42_10]
    refine PC.step (q2) fun m6 j6 => ?_
    try simp only [Heap.next_push, Heap.next_set, Heap.next_kill, next_bump, next_E0] at j6
    simp (maxSteps := 1000000) (disch := first | exact sd | fail) only [go_sem, Nat.reduceAdd, Nat.reduceSub, Nat.reduceLeDiff, ↓reduceIte, decide_eq_true_eq, if_true, if_false, Bool.false_eq_true, Int.lt_irrefl, implies_true, true_and, and_true, eq_self, and_self, beq_self_eq_true, aw_plan (id := 1) pl42_1, pl42_1, aw_plan (id := 8) pl42_8, pl42_8, aw_plan (id := 10) pl42_10, pl42_10]
    refine PC.step (p144 bo) fun m7 j7 => ?_
    try simp only [Heap.next_push, Heap.next_set, Heap.next_kill, next_bump, next_E0] at j7
    rw [vo, tdiv_signs]
    simp (maxSteps := 1000000) (disch := first | exact sd | fail) only [go_sem, Nat.reduceAdd, Nat.reduceSub, Nat.reduceLeDiff, ↓reduceIte, decide_eq_true_eq, if_true, if_false, Bool.false_eq_true, Int.lt_irrefl, implies_true, true_and, and_true, eq_self, and_self, beq_self_eq_true, aw_plan (id := 1) pl42_1, pl42_1, aw_plan (id := 8) pl42_8, pl42_8, aw_plan (id := 10) pl42_10, pl42_10]
    refine PC.step (q1) fun m8 j8 => ?_
    try simp only [Heap.next_push, Heap.next_set, Heap.next_kill, next_bump, next_E0] at j8
    simp (maxSteps := 1000000) (disch := first | exact sd | fail) only [go_sem, Nat.reduceAdd, Nat.reduceSub, Nat.reduceLeDiff, ↓reduceIte, decide_eq_true_eq, if_true, if_false, Bool.false_eq_true, Int.lt_irrefl, implies_true, true_and, and_true, eq_self, and_self, beq_self_eq_true, aw_plan (id := 1) pl42_1, pl42_1, aw_plan (id := 8) pl42_8, pl42_8, aw_plan (id := 10) pl42_10, pl42_10]
    refine PC.step (p144 bu) fun m9 j9 => ?_
    try simp only [Heap.next_push, Heap.next_set, Heap.next_kill, next_bump, next_E0] at j9
    rw [vu, tmod_signs]
    simp (maxSteps := 1000000) (disch := first | exact sd | fail) only [go_sem, Nat.reduceAdd, Nat.reduceSub, Nat.reduceLeDiff, ↓reduceIte, decide_eq_true_eq, if_true, if_false, Bool.false_eq_true, Int.lt_irrefl, implies_true, true_and, and_true, eq_self, and_self, beq_self_eq_true, aw_plan (id := 1) pl42_1, pl42_1, aw_plan (id := 8) pl42_8, pl42_8, aw_plan (id := 10) pl42_10, pl42_10]
    exact .rfl

theorem p46 {n m : Bool} {l k : List Int} (h1 : Lb l) (h2 : Lb k) (bA : ln (den n l) ≤ 2 ^ 39) (bB : ln (den m k) ≤ 2 ^ 39) :
    PC Try.prog 59 [In n l, In m k] (Zn (Int.gcd (den n l) (den m k))) := by
  refine PC.of (.cons pu_in (.cons pu_in .nil)) pu_in fun N hN => ?_
  have q1 := p142 (n := n) h1
  have q2 := p142 (n := m) h2
  generalize hA : den n l = A at *
  generalize hB : den m k = B at *
  have eA : (if (false : Bool) = true then -(val (lmb A)) else val (lmb A)) = (A.natAbs : Int) := by rw [val_z]; simp
  have eB : (if (false : Bool) = true then -(val (lmb B)) else val (lmb B)) = (B.natAbs : Int) := by rw [val_z]; simp
  refine ACalls.of_code T.hm (n := 28) Try.func59 rfl rfl rfl rfl ?_; simp only [List.replicate_succ, List.replicate_zero, List.cons_append, List.nil_append]
  simp (maxSteps := 1000000) (disch := first | exact sd | fail) only [go_sem, Nat.reduceAdd, Nat.reduceSub, Nat.reduceLeDiff, ↓reduceIte, decide_eq_true_eq, if_true, if_false, Bool.false_eq_true, Int.lt_irrefl, implies_true, true_and, and_true, eq_self, and_self, beq_self_eq_true, aw_plan (id := 1) pl46_1, pl46_1, aw_plan (id := 4) pl46_4, pl46_4]
  refine PC.step (q1) fun m1 j1 => ?_
  try simp only [Heap.next_push, Heap.next_set, Heap.next_kill, next_bump, next_E0] at j1
  simp (maxSteps := 1000000) (disch := first | exact sd | fail) only [go_sem, Nat.reduceAdd, Nat.reduceSub, Nat.reduceLeDiff, ↓reduceIte, decide_eq_true_eq, if_true, if_false, Bool.false_eq_true, Int.lt_irrefl, implies_true, true_and, and_true, eq_self, and_self, beq_self_eq_true, aw_plan (id := 1) pl46_1, pl46_1, aw_plan (id := 4) pl46_4, pl46_4]
  refine PC.step (p144 (lb_z (by omega))) fun m2 j2 => ?_
  try simp only [Heap.next_push, Heap.next_set, Heap.next_kill, next_bump, next_E0] at j2
  rw [eA]
  simp (maxSteps := 1000000) (disch := first | exact sd | fail) only [go_sem, Nat.reduceAdd, Nat.reduceSub, Nat.reduceLeDiff, ↓reduceIte, decide_eq_true_eq, if_true, if_false, Bool.false_eq_true, Int.lt_irrefl, implies_true, true_and, and_true, eq_self, and_self, beq_self_eq_true, aw_plan (id := 1) pl46_1, pl46_1, aw_plan (id := 4) pl46_4, pl46_4]
  refine PC.step (q2) fun m3 j3 => ?_
  try simp only [Heap.next_push, Heap.next_set, Heap.next_kill, next_bump, next_E0] at j3
  simp (maxSteps := 1000000) (disch := first | exact sd | fail) only [go_sem, Nat.reduceAdd, Nat.reduceSub, Nat.reduceLeDiff, ↓reduceIte, decide_eq_true_eq, if_true, if_false, Bool.false_eq_true, Int.lt_irrefl, implies_true, true_and, and_true, eq_self, and_self, beq_self_eq_true, aw_plan (id := 1) pl46_1, pl46_1, aw_plan (id := 4) pl46_4, pl46_4]
  refine PC.step (p144 (lb_z (by omega))) fun m4 j4 => ?_
  try simp only [Heap.next_push, Heap.next_set, Heap.next_kill, next_bump, next_E0] at j4
  rw [eB]
  simp (maxSteps := 1000000) (disch := first | exact sd | fail) only [go_sem, Nat.reduceAdd, Nat.reduceSub, Nat.reduceLeDiff, ↓reduceIte, decide_eq_true_eq, if_true, if_false, Bool.false_eq_true, Int.lt_irrefl, implies_true, true_and, and_true, eq_self, and_self, beq_self_eq_true, aw_plan (id := 1) pl46_1, pl46_1, aw_plan (id := 4) pl46_4, pl46_4]
  refine aw_loopJ (σ := Int × Int) (fun s J => [J 0, J 1, J 2, J 3, .pointer (some ⟨N + 1 + 1, 0, none⟩), .pointer (some ⟨N + 1 + 1 + 1, 0, none⟩), .pointer (some ⟨N + 1 + 1 + 1 + 1, 0, none⟩), J 7, J 8, J 9, J 10, J 11, J 12, J 13, J 14, J 15, J 16, J 17, J 18, J 19, J 20, J 21, J 22, J 23, J 24, J 25, J 26, J 27, J 28, J 29]) (fun m s H1 => m = s.2.natAbs ∧ (0 ≤ s.1 ∧ 0 ≤ s.2) ∧ Int.gcd s.1 s.2 = Int.gcd A B ∧ ln s.1 ≤ 2 ^ 39 ∧ ln s.2 ≤ 2 ^ 39 ∧ H1.get (N + 1 + 1) = some (.row true 47 [.bool false, .slice none 0 0]) ∧ H1.get (N + 1 + 1 + 1) = some (.row true 47 [.bool (sgn s.1), Vv eU (lmb s.1)]) ∧ H1.get (N + 1 + 1 + 1 + 1) = some (.row true 47 [.bool (sgn s.2), Vv eU (lmb s.2)]) ∧ N + 1 + 1 + 1 + 1 < H1.next) B.natAbs ((A.natAbs : Int), (B.natAbs : Int)) rfl ⟨rfl, by dsimp only; omega, rfl, by exact bA, by exact bB, by simp (maxSteps := 1000000) (disch := first | exact sd | fail) only [go_sem, Nat.reduceAdd, Nat.reduceSub, Nat.reduceLeDiff, ↓reduceIte, decide_eq_true_eq, if_true, if_false, Bool.false_eq_true, Int.lt_irrefl, implies_true, true_and, and_true, eq_self, and_self, beq_self_eq_true, aw_plan (id := 1) pl46_1, pl46_1, aw_plan (id := 4) pl46_4, pl46_4], by simp (maxSteps := 1000000) (disch := first | exact sd | fail) only [go_sem, Nat.reduceAdd, Nat.reduceSub, Nat.reduceLeDiff, ↓reduceIte, decide_eq_true_eq, if_true, if_false, Bool.false_eq_true, Int.lt_irrefl, implies_true, true_and, and_true, eq_self, and_self, beq_self_eq_true, aw_plan (id := 1) pl46_1, pl46_1, aw_plan (id := 4) pl46_4, pl46_4], by simp (maxSteps := 1000000) (disch := first | exact sd | fail) only [go_sem, Nat.reduceAdd, Nat.reduceSub, Nat.reduceLeDiff, ↓reduceIte, decide_eq_true_eq, if_true, if_false, Bool.false_eq_true, Int.lt_irrefl, implies_true, true_and, and_true, eq_self, and_self, beq_self_eq_true, aw_plan (id := 1) pl46_1, pl46_1, aw_plan (id := 4) pl46_4, pl46_4], by simp (maxSteps := 1000000) (disch := first | exact sd | fail) only [go_sem, Nat.reduceAdd, Nat.reduceSub, Nat.reduceLeDiff, ↓reduceIte, decide_eq_true_eq, if_true, if_false, Bool.false_eq_true, Int.lt_irrefl, implies_true, true_and, and_true, eq_self, and_self, beq_self_eq_true, aw_plan (id := 1) pl46_1, pl46_1, aw_plan (id := 4) pl46_4, pl46_4]; omega⟩ ?_
  rintro m ⟨X, Y⟩ J H1 ⟨rfl, hp, hg, bX, bY, g4, g5, g6, hn4⟩
  simp only at hp hg bX bY g5 g6
  by_cases hY : Y = 0
  · have hl : (ln Y : Int) = 0 := by rw [hY, ln_zero]; rfl
    simp (maxSteps := 1000000) (disch := first | exact sd | fail) only [go_sem, Nat.reduceAdd, Nat.reduceSub, Nat.reduceLeDiff, ↓reduceIte, decide_eq_true_eq, if_true, if_false, Bool.false_eq_true, Int.lt_irrefl, implies_true, true_and, and_true, eq_self, and_self, beq_self_eq_true, aw_plan (id := 1) pl46_1, pl46_1, aw_plan (id := 4) pl46_4, pl46_4, g6, hl, g4, g5]
    have e : X = (Int.gcd A B : Int) := by rw [← hg, hY]; simp; omega
    rw [e]
    exact .rfl
  · have hl : 0 < (ln Y : Int) := by have := ln_eq_zero (z := Y); omega
    have ltm := ln_tmod' (a := X) hY
    simp (maxSteps := 1000000) (disch := first | exact sd | fail) only [go_sem, Nat.reduceAdd, Nat.reduceSub, Nat.reduceLeDiff, ↓reduceIte, decide_eq_true_eq, if_true, if_false, Bool.false_eq_true, Int.lt_irrefl, implies_true, true_and, and_true, eq_self, and_self, beq_self_eq_true, aw_plan (id := 1) pl46_1, pl46_1, aw_plan (id := 4) pl46_4, pl46_4, g5, g6, hl]
    refine PC.step (p42 (n := sgn X) (l := lmb X) (m := sgn Y) (k := lmb Y) (lb_z (by omega)) (lb_z (by omega)) (by rw [den_z]; exact bX) (by rw [den_z]; exact bY) (by rw [den_z]; exact hY)) fun m5 j5 => ?_
    try simp only [Heap.next_push, Heap.next_set, Heap.next_kill, next_bump, next_E0] at j5
    simp (maxSteps := 1000000) (disch := first | exact sd | fail) only [go_sem, Nat.reduceAdd, Nat.reduceSub, Nat.reduceLeDiff, ↓reduceIte, decide_eq_true_eq, if_true, if_false, Bool.false_eq_true, Int.lt_irrefl, implies_true, true_and, and_true, eq_self, and_self, beq_self_eq_true, aw_plan (id := 1) pl46_1, pl46_1, aw_plan (id := 4) pl46_4, pl46_4, g5, g6]
    have h1 := Int.tmod_nonneg Y hp.1
    have h2 := Int.tmod_lt_of_pos X (show 0 < Y by omega)
    refine IJ_intro (k := (X.tmod Y).natAbs) (by omega) (Y, X.tmod Y) rfl ⟨rfl, ⟨hp.2, h1⟩, ?_, bY, by dsimp only; omega, by simp (maxSteps := 1000000) (disch := first | exact sd | fail) only [go_sem, Nat.reduceAdd, Nat.reduceSub, Nat.reduceLeDiff, ↓reduceIte, decide_eq_true_eq, if_true, if_false, Bool.false_eq_true, Int.lt_irrefl, implies_true, true_and, and_true, eq_self, and_self, beq_self_eq_true, aw_plan (id := 1) pl46_1, pl46_1, aw_plan (id := 4) pl46_4, pl46_4, g4], by simp (maxSteps := 1000000) (disch := first | exact sd | fail) only [go_sem, Nat.reduceAdd, Nat.reduceSub, Nat.reduceLeDiff, ↓reduceIte, decide_eq_true_eq, if_true, if_false, Bool.false_eq_true, Int.lt_irrefl, implies_true, true_and, and_true, eq_self, and_self, beq_self_eq_true, aw_plan (id := 1) pl46_1, pl46_1, aw_plan (id := 4) pl46_4, pl46_4], by simp (maxSteps := 1000000) (disch := first | exact sd | fail) only [go_sem, Nat.reduceAdd, Nat.reduceSub, Nat.reduceLeDiff, ↓reduceIte, decide_eq_true_eq, if_true, if_false, Bool.false_eq_true, Int.lt_irrefl, implies_true, true_and, and_true, eq_self, and_self, beq_self_eq_true, aw_plan (id := 1) pl46_1, pl46_1, aw_plan (id := 4) pl46_4, pl46_4], by simp (maxSteps := 1000000) (disch := first | exact sd | fail) only [go_sem, Nat.reduceAdd, Nat.reduceSub, Nat.reduceLeDiff, ↓reduceIte, decide_eq_true_eq, if_true, if_false, Bool.false_eq_true, Int.lt_irrefl, implies_true, true_and, and_true, eq_self, and_self, beq_self_eq_true, aw_plan (id := 1) pl46_1, pl46_1, aw_plan (id := 4) pl46_4, pl46_4]; omega⟩
    rw [← hg]
    show Nat.gcd Y.natAbs (X.tmod Y).natAbs = Nat.gcd X.natAbs Y.natAbs
    rw [Int.natAbs_tmod, Nat.gcd_comm, ← Nat.gcd_rec, Nat.gcd_comm]
end Go.Abs

/- What laws on numbers call beside: how many limbs, errors, nought. -/
set_option linter.unusedVariables false
set_option linter.unusedSimpArgs false
namespace Go.Abs
open Go Go.Proofs
set_option maxRecDepth 100000
set_option maxHeartbeats 4000000

theorem ln_den {n : Bool} {l : List Int} (hl : Lim l) : ln (den n l) ≤ l.length := by
  have := nz_limbs (ng := n) hl
  unfold ln
  rw [← this]
  unfold nzL
  split
  · exact Nat.le_refl _
  · simp
variable {P : Program} {H : Heap} {K : Value → Heap → Prop} {g : FuncId}
/-- A call that looks at an own slice. -/
theorem PC.peek1 {b n c es : Nat} {own : Bool} {el : TypeId} {cells : List Value} {r : Value} (hg : H.get b = some (.row own el cells)) (hb : b < H.next) (hc : c = unk ∨ (n ≤ c ∧ c < unk)) (he : 0 < es) (hs : own = false ∨ szOf P el = es) (hl : cells.length = n * es)
    (h : PC P g [fzv n cells] r) (hr : ground r = true) (k : K r H) : ACalls P g [.slice (some ⟨b, 0, none⟩) n c] H K := by
  have hsl := Sl.row (P := P) (es := es) (off := 0) (n := n) (c := c) hg hb hs hc (by omega)
  rw [List.drop_zero, List.take_of_length_le (by omega)] at hsl
  exact h.peek hr (.cons (.sl he hsl .refl) .nil) k
theorem p40 {ls : List RI} (hb : ls.length < 2 ^ 62) : PC Try.prog 32 [Vv eI ls] (.bool (ls.any fun a => decide (40 < a.l.length))) := by
  refine PC.of (.cons pu_Is .nil) (.ground rfl) fun N hN => ?_
  refine ACalls.of_code T.hm (n := 16) Try.func32 rfl rfl rfl rfl ?_; simp only [List.replicate_succ, List.replicate_zero, List.cons_append, List.nil_append]
  simp (maxSteps := 1000000) (disch := first | exact sd | fail) only [go_sem, Nat.reduceAdd, Nat.reduceSub, Nat.reduceLeDiff, ↓reduceIte, decide_eq_true_eq, if_true, if_false, Bool.false_eq_true, Int.lt_irrefl, implies_true, true_and, and_true, eq_self, and_self, beq_self_eq_true]
  refine aw_loopS (σ := Nat) (fun k J => [Vv eI ls, J 1, .bool false, .int .i64 k, J 4, J 5, J 6, J 7, J 8, J 9, J 10, J 11, J 12, J 13, J 14, J 15, J 16]) (fun m k => m = ls.length - k ∧ k ≤ ls.length ∧ ∀ i, i < k → ∀ p, ls[i]? = some p → ¬ 40 < p.l.length) ls.length 0 rfl ⟨rfl, Nat.zero_le _, fun i hi => by omega⟩ ?_
  rintro m k J ⟨rfl, hk, hall⟩
  by_cases h4 : (k : Int) < ls.length
  · have hk' : k < ls.length := by omega
    have eg : ls.getD k eI.d = ls[k] := by rw [List.getD_eq_getElem?_getD, List.getElem?_eq_getElem hk']; rfl
    by_cases h5 : (40 : Int) < (ls[k]).l.length
    · simp (maxSteps := 1000000) (disch := first | exact sd | fail) only [go_sem, Nat.reduceAdd, Nat.reduceSub, Nat.reduceLeDiff, ↓reduceIte, decide_eq_true_eq, if_true, if_false, Bool.false_eq_true, Int.lt_irrefl, implies_true, true_and, and_true, eq_self, and_self, beq_self_eq_true, h4, Int.toNat_natCast, eg, h5]
      have : (ls.any fun p => decide (40 < p.l.length)) = true := by
        rw [List.any_eq_true]
        exact ⟨ls[k], List.getElem_mem hk', by simp; omega⟩
      rw [this]
      exact .rfl
    · simp (maxSteps := 1000000) (disch := first | exact sd | fail) only [go_sem, Nat.reduceAdd, Nat.reduceSub, Nat.reduceLeDiff, ↓reduceIte, decide_eq_true_eq, if_true, if_false, Bool.false_eq_true, Int.lt_irrefl, implies_true, true_and, and_true, eq_self, and_self, beq_self_eq_true, h4, Int.toNat_natCast, eg, h5]
      refine IJ_intro (k := ls.length - (k + 1)) (by omega) (k + 1) rfl ⟨⟨rfl, by omega, fun i hi p hp => ?_⟩, rfl⟩
      by_cases h6 : i = k
      · subst h6
        rw [List.getElem?_eq_getElem hk'] at hp
        injection hp with hp; subst hp; omega
      · exact hall i (by omega) p hp
  · simp (maxSteps := 1000000) (disch := first | exact sd | fail) only [go_sem, Nat.reduceAdd, Nat.reduceSub, Nat.reduceLeDiff, ↓reduceIte, decide_eq_true_eq, if_true, if_false, Bool.false_eq_true, Int.lt_irrefl, implies_true, true_and, and_true, eq_self, and_self, beq_self_eq_true, h4]
    have : (ls.any fun p => decide (40 < p.l.length)) = false := by
      rw [List.any_eq_false]
      intro p hp
      obtain ⟨i, hi, rfl⟩ := List.getElem_of_mem hp
      have := hall i (by omega) _ (List.getElem?_eq_getElem hi)
      simpa using this
    rw [this]
    exact .rfl

theorem nzI {v : Value} : Nzs [v, In false []] [v, .agg ⟨[.bool false, .slice none 0 0]⟩] := .cons .rfl (.cons (.agg (.cons .rfl (.cons .vnil .nil))) .nil)
theorem s55n {n : Bool} {l : List Int} (h1 : Lb l) (k : ∀ m, H.next ≤ m → K (.int .i64 (sg (den n l))) (H.bump m)) : ACalls Try.prog 58 [In n l, .agg ⟨[.bool false, .slice none 0 0]⟩] H K :=
  ACalls.nz nzI (PC.step ((p55 h1 lb_nil).ok (by rw [den_nil, Int.sub_zero])) k)
theorem p44t {a b : Int} (h1 : ln a ≤ 2 ^ 40) (e : a = b) : PC Try.prog 13 [Zn a, Zn b] (.bool true) := by
  subst e
  exact (p44 (lb_z h1) (lb_z h1)).ok (by simp)
theorem s44n {a : Int} (e : a = 0) (k : ∀ m, H.next ≤ m → K (.bool true) (H.bump m)) : ACalls Try.prog 13 [Zn a, .agg ⟨[.bool false, .slice none 0 0]⟩] H K := by
  subst e
  refine ACalls.nz nzI (PC.step ((p44 (lb_z (by rw [ln_zero]; omega)) lb_nil).ok ?_) k)
  rw [lmb_zero]; rfl
theorem sg_bd (x : Int) : -9223372036854775808 ≤ sg x ∧ sg x ≤ 9223372036854775807 := by
  unfold sg; split
  · omega
  · split <;> omega
theorem sg_zero : sg 0 = 0 := rfl
theorem sg_eq0 {x : Int} : sg x = 0 ↔ x = 0 := by
  unfold sg; split
  · omega
  · split <;> omega
theorem sg_pos {x : Int} : 0 < sg x ↔ 0 < x := by
  unfold sg; split
  · omega
  · split <;> omega
theorem mul_sg (x : Int) : x * sg x = x.natAbs := by
  unfold sg; split
  · omega
  · split <;> omega
theorem ln_sg (x : Int) : ln (sg x) ≤ 1 := ln_small (by unfold sg; split; decide; split <;> decide)
attribute [go_sem] sg_zero
end Go.Abs
