/- VecSums, on values. -/
import Derived.Test.YtoahhljnnjekiaaV15
set_option linter.unusedVariables false
set_option linter.unusedSimpArgs false
namespace Go.Abs
open Go Go.Proofs
set_option maxRecDepth 100000
set_option maxHeartbeats 40000000
def plL19_19_11 : Plan := ⟨[0], [(1, [], [2, 3, 4]), (5, [], [6, 7, 8, 9]), (10, [], [11, 12, 13, 14]), (15, [], [16, 17, 18, 19, 20, 21, 22]), (23, [20, 19], []), (24, [19], []), (25, [], [26, 27]), (28, [], [29, 30])]⟩
theorem dot_sums {a b c : List RQ} {t : Rat} (h1 : a.length = b.length) (h2 : a.length = c.length) : dotV (plusV a t b) c = dotV a c + t * dotV c b := by
  unfold dotV plusV
  rw [tab_len, ← h2, ← sumI_mul, ← sumI_add]
  refine sumI_congr fun i hi => ?_
  rw [ev_tab hi]
  grind
theorem take_lim {a : List RQ} {w : Nat} (h : ∀ x ∈ a, LimQ x) : ∀ x ∈ a.take w, LimQ x := fun x hx => h x (List.mem_of_mem_take hx)
theorem three_len {a b c : List RQ} (ha : a.length ≤ maxLen) (hb : b.length ≤ maxLen) (hc : c.length ≤ maxLen) (j : Nat) : (rwi [a, b, c] j).length ≤ 9223372036854775807 := by
  have hM : maxLen = 9223372036854775807 := rfl
  match j with
  | 0 => show a.length ≤ _; omega
  | 1 => show b.length ≤ _; omega
  | 2 => show c.length ≤ _; omega
  | j + 3 => show ([] : List RQ).length ≤ _; decide
theorem q19 {a b c : List RQ} {t : RQ} (ha : a.length ≤ maxLen ∧ ∀ x ∈ a, LimQ x) (hb : b.length ≤ maxLen ∧ ∀ x ∈ b, LimQ x) (hc : c.length ≤ maxLen ∧ ∀ x ∈ c, LimQ x) (ht : LimQ t) : PC Try.prog 6 [Vv eQ a, Vv eQ b, Vv eQ c, .agg ⟨eQ.enc t⟩] (.bool true) := by
  refine PC.of (.cons pu_Qs (.cons pu_Qs (.cons pu_Qs (.cons pu_r4 .nil)))) (.ground rfl) fun N hN => ?_
  obtain ⟨w, hw⟩ : ∃ w : Nat, w = min (min (min a.length b.length) c.length) 20 := ⟨_, rfl⟩
  refine ACalls.of_code T.hm (n := 96) Try.func6 rfl rfl rfl rfl ?_; simp only [List.replicate_succ, List.replicate_zero, List.cons_append, List.nil_append]
  simp (maxSteps := 1000000) (disch := first | exact sd | fail) only [go_sem, Nat.reduceAdd, Nat.reduceSub, Nat.reduceLeDiff, ↓reduceIte, decide_eq_true_eq, if_true, if_false, Bool.false_eq_true, Int.lt_irrefl, implies_true, true_and, and_true, eq_self, and_self, beq_self_eq_true, aw_plan (id := 11) plL19_19_11, plL19_19_11]
  have em : min (min (min (a.length : Int) b.length) c.length) 20 = (w : Int) := by omega
  have w1 : (w : Int) ≤ a.length := by omega
  have w2 : (w : Int) ≤ b.length := by omega
  have w3 : (w : Int) ≤ c.length := by omega
  have w0 : (0 : Int) ≤ w := by omega
  simp (maxSteps := 1000000) (disch := first | exact sd | fail) only [go_sem, Nat.reduceAdd, Nat.reduceSub, Nat.reduceLeDiff, ↓reduceIte, decide_eq_true_eq, if_true, if_false, Bool.false_eq_true, Int.lt_irrefl, implies_true, true_and, and_true, eq_self, and_self, beq_self_eq_true, aw_plan (id := 11) plL19_19_11, plL19_19_11, em, w1, w2, w3, w0, Int.toNat_natCast]
  have la : (a.take w).length = w := by rw [List.length_take]; omega
  have lb : (b.take w).length = w := by rw [List.length_take]; omega
  have lc : (c.take w).length = w := by rw [List.length_take]; omega
  have ka := take_lim (w := w) ha.2
  have kb := take_lim (w := w) hb.2
  have kc := take_lim (w := w) hc.2
  have hM : maxLen = 9223372036854775807 := rfl
  generalize a.take w = A at *
  generalize b.take w = B at *
  generalize c.take w = C at *
  trace_state
  refine s83 (ls := [A, B, C]) (by simp (maxSteps := 1000000) (disch := first | exact sd | fail) only [go_sem, Nat.reduceAdd, Nat.reduceSub, Nat.reduceLeDiff, ↓reduceIte, decide_eq_true_eq, if_true, if_false, Bool.false_eq_true, Int.lt_irrefl, implies_true, true_and, and_true, eq_self, and_self, beq_self_eq_true, aw_plan (id := 11) plL19_19_11, plL19_19_11]; rfl) (by simp (maxSteps := 1000000) (disch := first | exact sd | fail) only [go_sem, Nat.reduceAdd, Nat.reduceSub, Nat.reduceLeDiff, ↓reduceIte, decide_eq_true_eq, if_true, if_false, Bool.false_eq_true, Int.lt_irrefl, implies_true, true_and, and_true, eq_self, and_self, beq_self_eq_true, aw_plan (id := 11) plL19_19_11, plL19_19_11]; omega) rfl rfl (by simp) (three_len (by omega) (by omega) (by omega)) ?_
  rintro g hg
  cases g with
  | true =>
    simp (maxSteps := 1000000) (disch := first | exact sd | fail) only [go_sem, Nat.reduceAdd, Nat.reduceSub, Nat.reduceLeDiff, ↓reduceIte, decide_eq_true_eq, if_true, if_false, Bool.false_eq_true, Int.lt_irrefl, implies_true, true_and, and_true, eq_self, and_self, beq_self_eq_true, aw_plan (id := 11) plL19_19_11, plL19_19_11]
    refine PC.step (p84) fun m1 j1 => ?_
    try simp only [Heap.next_push, Heap.next_set, Heap.next_kill, next_bump, next_E0] at j1
    simp (maxSteps := 1000000) (disch := first | exact sd | fail) only [go_sem, Nat.reduceAdd, Nat.reduceSub, Nat.reduceLeDiff, ↓reduceIte, decide_eq_true_eq, if_true, if_false, Bool.false_eq_true, Int.lt_irrefl, implies_true, true_and, and_true, eq_self, and_self, beq_self_eq_true, aw_plan (id := 11) plL19_19_11, plL19_19_11]
    exact .rfl
  | false =>
    have hg := hg rfl
    have ga := hg.at (j := 0) (by simp) (l := A) rfl ka
    have gb := hg.at (j := 1) (by simp) (l := B) rfl kb
    have gc := hg.at (j := 2) (by simp) (l := C) rfl kc
    simp (maxSteps := 1000000) (disch := first | exact sd | fail) only [go_sem, Nat.reduceAdd, Nat.reduceSub, Nat.reduceLeDiff, ↓reduceIte, decide_eq_true_eq, if_true, if_false, Bool.false_eq_true, Int.lt_irrefl, implies_true, true_and, and_true, eq_self, and_self, beq_self_eq_true, aw_plan (id := 11) plL19_19_11, plL19_19_11]
    refine s69 (pn := t.p.neg) (pl := t.p.l) (qn := t.q.neg) (ql := t.q.l) (by simp (maxSteps := 1000000) (disch := first | exact sd | fail) only [go_sem, Nat.reduceAdd, Nat.reduceSub, Nat.reduceLeDiff, ↓reduceIte, decide_eq_true_eq, if_true, if_false, Bool.false_eq_true, Int.lt_irrefl, implies_true, true_and, and_true, eq_self, and_self, beq_self_eq_true, aw_plan (id := 11) plL19_19_11, plL19_19_11]) (by simp (maxSteps := 1000000) (disch := first | exact sd | fail) only [go_sem, Nat.reduceAdd, Nat.reduceSub, Nat.reduceLeDiff, ↓reduceIte, decide_eq_true_eq, if_true, if_false, Bool.false_eq_true, Int.lt_irrefl, implies_true, true_and, and_true, eq_self, and_self, beq_self_eq_true, aw_plan (id := 11) plL19_19_11, plL19_19_11]; omega) ?_
    cases hg2 : gq t with
    | true =>
      simp (maxSteps := 1000000) (disch := first | exact sd | fail) only [go_sem, Nat.reduceAdd, Nat.reduceSub, Nat.reduceLeDiff, ↓reduceIte, decide_eq_true_eq, if_true, if_false, Bool.false_eq_true, Int.lt_irrefl, implies_true, true_and, and_true, eq_self, and_self, beq_self_eq_true, aw_plan (id := 11) plL19_19_11, plL19_19_11]
      refine PC.step (p84) fun m1 j1 => ?_
      try simp only [Heap.next_push, Heap.next_set, Heap.next_kill, next_bump, next_E0] at j1
      simp (maxSteps := 1000000) (disch := first | exact sd | fail) only [go_sem, Nat.reduceAdd, Nat.reduceSub, Nat.reduceLeDiff, ↓reduceIte, decide_eq_true_eq, if_true, if_false, Bool.false_eq_true, Int.lt_irrefl, implies_true, true_and, and_true, eq_self, and_self, beq_self_eq_true, aw_plan (id := 11) plL19_19_11, plL19_19_11]
      exact .rfl
    | false =>
      obtain ⟨rt, lt⟩ := gq_rz ht hg2
      obtain ⟨z1, z2⟩ := ga.plus gb lt
      have d1 := lq_dot z1 gc.rw
      have d2 := ga.dot gc
      have d3 := gc.dot gb
      have d4 := lq_mul (vq t) (dotV C B)
      have d5 := lq_add (dotV A C) (vq t * dotV C B)
      have es := dot_sums (a := A) (b := B) (c := C) (t := vq t) (by omega) (by omega)
      simp (maxSteps := 1000000) (disch := first | exact sd | fail) only [go_sem, Nat.reduceAdd, Nat.reduceSub, Nat.reduceLeDiff, ↓reduceIte, decide_eq_true_eq, if_true, if_false, Bool.false_eq_true, Int.lt_irrefl, implies_true, true_and, and_true, eq_self, and_self, beq_self_eq_true, aw_plan (id := 11) plL19_19_11, plL19_19_11]
      refine PC.step (p87 ga.rw gb.rw rt (by omega)) fun m1 j1 => ?_
      try simp only [Heap.next_push, Heap.next_set, Heap.next_kill, next_bump, next_E0] at j1
      simp (maxSteps := 1000000) (disch := first | exact sd | fail) only [go_sem, Nat.reduceAdd, Nat.reduceSub, Nat.reduceLeDiff, ↓reduceIte, decide_eq_true_eq, if_true, if_false, Bool.false_eq_true, Int.lt_irrefl, implies_true, true_and, and_true, eq_self, and_self, beq_self_eq_true, aw_plan (id := 11) plL19_19_11, plL19_19_11]
      refine PC.step (p85 z1 gc.rw (by unfold plusV; rw [tab_len]; omega)) fun m2 j2 => ?_
      try simp only [Heap.next_push, Heap.next_set, Heap.next_kill, next_bump, next_E0] at j2
      simp (maxSteps := 1000000) (disch := first | exact sd | fail) only [go_sem, Nat.reduceAdd, Nat.reduceSub, Nat.reduceLeDiff, ↓reduceIte, decide_eq_true_eq, if_true, if_false, Bool.false_eq_true, Int.lt_irrefl, implies_true, true_and, and_true, eq_self, and_self, beq_self_eq_true, aw_plan (id := 11) plL19_19_11, plL19_19_11]
      refine PC.step (p85 ga.rw gc.rw (by omega)) fun m3 j3 => ?_
      try simp only [Heap.next_push, Heap.next_set, Heap.next_kill, next_bump, next_E0] at j3
      simp (maxSteps := 1000000) (disch := first | exact sd | fail) only [go_sem, Nat.reduceAdd, Nat.reduceSub, Nat.reduceLeDiff, ↓reduceIte, decide_eq_true_eq, if_true, if_false, Bool.false_eq_true, Int.lt_irrefl, implies_true, true_and, and_true, eq_self, and_self, beq_self_eq_true, aw_plan (id := 11) plL19_19_11, plL19_19_11]
      refine PC.step (p85 gc.rw gb.rw (by omega)) fun m4 j4 => ?_
      try simp only [Heap.next_push, Heap.next_set, Heap.next_kill, next_bump, next_E0] at j4
      simp (maxSteps := 1000000) (disch := first | exact sd | fail) only [go_sem, Nat.reduceAdd, Nat.reduceSub, Nat.reduceLeDiff, ↓reduceIte, decide_eq_true_eq, if_true, if_false, Bool.false_eq_true, Int.lt_irrefl, implies_true, true_and, and_true, eq_self, and_self, beq_self_eq_true, aw_plan (id := 11) plL19_19_11, plL19_19_11]
      refine PC.step (p45) fun m5 j5 => ?_
      try simp only [Heap.next_push, Heap.next_set, Heap.next_kill, next_bump, next_E0] at j5
      simp (maxSteps := 1000000) (disch := first | exact sd | fail) only [go_sem, Nat.reduceAdd, Nat.reduceSub, Nat.reduceLeDiff, ↓reduceIte, decide_eq_true_eq, if_true, if_false, Bool.false_eq_true, Int.lt_irrefl, implies_true, true_and, and_true, eq_self, and_self, beq_self_eq_true, aw_plan (id := 11) plL19_19_11, plL19_19_11]
      refine PC.step (p45) fun m6 j6 => ?_
      try simp only [Heap.next_push, Heap.next_set, Heap.next_kill, next_bump, next_E0] at j6
      simp (maxSteps := 1000000) (disch := first | exact sd | fail) only [go_sem, Nat.reduceAdd, Nat.reduceSub, Nat.reduceLeDiff, ↓reduceIte, decide_eq_true_eq, if_true, if_false, Bool.false_eq_true, Int.lt_irrefl, implies_true, true_and, and_true, eq_self, and_self, beq_self_eq_true, aw_plan (id := 11) plL19_19_11, plL19_19_11]
      refine PC.step (p45) fun m7 j7 => ?_
      try simp only [Heap.next_push, Heap.next_set, Heap.next_kill, next_bump, next_E0] at j7
      simp (maxSteps := 1000000) (disch := first | exact sd | fail) only [go_sem, Nat.reduceAdd, Nat.reduceSub, Nat.reduceLeDiff, ↓reduceIte, decide_eq_true_eq, if_true, if_false, Bool.false_eq_true, Int.lt_irrefl, implies_true, true_and, and_true, eq_self, and_self, beq_self_eq_true, aw_plan (id := 11) plL19_19_11, plL19_19_11]
      refine PC.step (p45) fun m8 j8 => ?_
      try simp only [Heap.next_push, Heap.next_set, Heap.next_kill, next_bump, next_E0] at j8
      simp (maxSteps := 1000000) (disch := first | exact sd | fail) only [go_sem, Nat.reduceAdd, Nat.reduceSub, Nat.reduceLeDiff, ↓reduceIte, decide_eq_true_eq, if_true, if_false, Bool.false_eq_true, Int.lt_irrefl, implies_true, true_and, and_true, eq_self, and_self, beq_self_eq_true, aw_plan (id := 11) plL19_19_11, plL19_19_11]
      refine PC.step (p91m rt (by omega)) fun m9 j9 => ?_
      try simp only [Heap.next_push, Heap.next_set, Heap.next_kill, next_bump, next_E0] at j9
      simp (maxSteps := 1000000) (disch := first | exact sd | fail) only [go_sem, Nat.reduceAdd, Nat.reduceSub, Nat.reduceLeDiff, ↓reduceIte, decide_eq_true_eq, if_true, if_false, Bool.false_eq_true, Int.lt_irrefl, implies_true, true_and, and_true, eq_self, and_self, beq_self_eq_true, aw_plan (id := 11) plL19_19_11, plL19_19_11]
      refine PC.step (p90q (x := dotV A C) (y := vq t * dotV C B) (by omega) (by omega)) fun m10 j10 => ?_
      try simp only [Heap.next_push, Heap.next_set, Heap.next_kill, next_bump, next_E0] at j10
      simp (maxSteps := 1000000) (disch := first | exact sd | fail) only [go_sem, Nat.reduceAdd, Nat.reduceSub, Nat.reduceLeDiff, ↓reduceIte, decide_eq_true_eq, if_true, if_false, Bool.false_eq_true, Int.lt_irrefl, implies_true, true_and, and_true, eq_self, and_self, beq_self_eq_true, aw_plan (id := 11) plL19_19_11, plL19_19_11]
      refine PC.step (p75t (by omega) es) fun m11 j11 => ?_
      try simp only [Heap.next_push, Heap.next_set, Heap.next_kill, next_bump, next_E0] at j11
      simp (maxSteps := 1000000) (disch := first | exact sd | fail) only [go_sem, Nat.reduceAdd, Nat.reduceSub, Nat.reduceLeDiff, ↓reduceIte, decide_eq_true_eq, if_true, if_false, Bool.false_eq_true, Int.lt_irrefl, implies_true, true_and, and_true, eq_self, and_self, beq_self_eq_true, aw_plan (id := 11) plL19_19_11, plL19_19_11]
      refine PC.step (p84) fun m12 j12 => ?_
      try simp only [Heap.next_push, Heap.next_set, Heap.next_kill, next_bump, next_E0] at j12
      simp (maxSteps := 1000000) (disch := first | exact sd | fail) only [go_sem, Nat.reduceAdd, Nat.reduceSub, Nat.reduceLeDiff, ↓reduceIte, decide_eq_true_eq, if_true, if_false, Bool.false_eq_true, Int.lt_irrefl, implies_true, true_and, and_true, eq_self, and_self, beq_self_eq_true, aw_plan (id := 11) plL19_19_11, plL19_19_11]
      exact .rfl
theorem lawVecSums {H : Heap} {xs : List Value} (hf : ∀ b, H.next ≤ b → H.get b = none) (hg : GoodArgs Try.prog H 8 [46, 46, 46, 36] xs) : ACalls Try.prog 6 xs H fun v _ => v = .bool true := by
  obtain ⟨ps, h1, h2, h3⟩ := args_frz hf (by intro t ht; simp only [List.mem_cons, List.not_mem_nil, or_false] at ht; rcases ht with rfl | rfl | rfl | rfl <;> kernel_rfl) hg
  obtain ⟨p0, ps0, rfl, a0, r0⟩ := h3.cons
  obtain ⟨a, rfl, ha⟩ := a0.rats
  obtain ⟨p1, ps1, rfl, a1, r1⟩ := r0.cons
  obtain ⟨b, rfl, hb⟩ := a1.rats
  obtain ⟨p2, ps2, rfl, a2, r2⟩ := r1.cons
  obtain ⟨c, rfl, hc⟩ := a2.rats
  obtain ⟨p3, ps3, rfl, a3, r3⟩ := r2.cons
  obtain ⟨pn, pl, qn, ql, rfl, k1, k2⟩ := a3.rat
  obtain rfl := r3.nil
  exact (q19 (t := ⟨⟨pn, pl⟩, ⟨qn, ql⟩⟩) ha hb hc ⟨k1, k2⟩).law h1
end Go.Abs
