/- TemplRights, on values. -/
import Derived.Test.YtfadclnaahanmaaM5
set_option linter.unusedVariables false
set_option linter.unusedSimpArgs false
namespace Go.Abs
open Go Go.Proofs
set_option maxRecDepth 100000
set_option maxHeartbeats 40000000
def plL34_34_1 : Plan := ⟨[0, 1], [(2, [], [3, 4, 5, 7, 8]), (6, [7], []), (9, [], [10, 11]), (12, [], [13, 14, 15])]⟩
theorem FArg.templ {n : Nat} {p : Value} (h : FArg Try.prog (n + 7) 25 p) : ∃ l : List (List RQ), p = Tv l ∧ l.length ≤ maxLen ∧ ∀ r ∈ l, r.length ≤ maxLen ∧ ∀ a ∈ r, LimQ a := by
  obtain ⟨cs, rfl, h1⟩ := h.struct Try.underlying25
  obtain ⟨h1, h2⟩ := h1.struct Try.underlying25
  rw [T.s121] at h1
  have a1 := h2 _ (List.Mem.head _)
  simp only [T.s72, List.drop_zero] at a1
  obtain ⟨l, e, k1, k2⟩ := fgood_table (n := n) a1
  refine ⟨l, ?_, k1, k2⟩
  rw [List.take_of_length_le (by omega)] at e
  rw [e]
  rfl
theorem q34 {rows : List (List RQ)} {n : Int} (hm : rows.length ≤ maxLen ∧ ∀ r ∈ rows, r.length ≤ maxLen ∧ ∀ a ∈ r, LimQ a) : PC Try.prog 6 [Tv rows, .int .i64 n] (.bool true) := by
  refine PC.of (.cons pu_T (.cons (.ground rfl) .nil)) (.ground rfl) fun N hN => ?_
  unfold Tv
  refine ACalls.of_code T.hm (n := 18) Try.func6 rfl rfl rfl rfl ?_; simp only [List.replicate_succ, List.replicate_zero, List.cons_append, List.nil_append]
  simp (maxSteps := 1000000) (disch := first | exact sd | fail) only [go_sem, Nat.reduceAdd, Nat.reduceSub, Nat.reduceLeDiff, ↓reduceIte, decide_eq_true_eq, if_true, if_false, Bool.false_eq_true, Int.lt_irrefl, implies_true, true_and, and_true, eq_self, and_self, beq_self_eq_true, aw_plan (id := 1) plL34_34_1, plL34_34_1]
  refine PK.step (p83 hm.1 (rows_len fun r hr => (hm.2 r hr).1)) ?_
  rintro _ m1 ⟨c, rfl, hc⟩ j1
  cases c with
  | true =>
    simp (maxSteps := 1000000) (disch := first | exact sd | fail) only [go_sem, Nat.reduceAdd, Nat.reduceSub, Nat.reduceLeDiff, ↓reduceIte, decide_eq_true_eq, if_true, if_false, Bool.false_eq_true, Int.lt_irrefl, implies_true, true_and, and_true, eq_self, and_self, beq_self_eq_true, aw_plan (id := 1) plL34_34_1, plL34_34_1]
    exact .rfl
  | false =>
    have gm := (hc rfl).rows fun r hr => (hm.2 r hr).2
    have q1 := p131 (rows := rows) (n := n) (fun j => (gm j).rw) hm.1
    have q2 := p132 (rows := rows) (n := n) (fun j => (gm j).rw) hm.1
    unfold Tv at q1 q2
    simp (maxSteps := 1000000) (disch := first | exact sd | fail) only [go_sem, Nat.reduceAdd, Nat.reduceSub, Nat.reduceLeDiff, ↓reduceIte, decide_eq_true_eq, if_true, if_false, Bool.false_eq_true, Int.lt_irrefl, implies_true, true_and, and_true, eq_self, and_self, beq_self_eq_true, aw_plan (id := 1) plL34_34_1, plL34_34_1]
    refine PC.step (q1) fun m2 j2 => ?_
    try simp only [Heap.next_push, Heap.next_set, Heap.next_kill, next_bump, next_E0] at j2
    simp (maxSteps := 1000000) (disch := first | exact sd | fail) only [go_sem, Nat.reduceAdd, Nat.reduceSub, Nat.reduceLeDiff, ↓reduceIte, decide_eq_true_eq, if_true, if_false, Bool.false_eq_true, Int.lt_irrefl, implies_true, true_and, and_true, eq_self, and_self, beq_self_eq_true, aw_plan (id := 1) plL34_34_1, plL34_34_1]
    refine PC.step (q2) fun m3 j3 => ?_
    try simp only [Heap.next_push, Heap.next_set, Heap.next_kill, next_bump, next_E0] at j3
    simp (maxSteps := 1000000) (disch := first | exact sd | fail) only [go_sem, Nat.reduceAdd, Nat.reduceSub, Nat.reduceLeDiff, ↓reduceIte, decide_eq_true_eq, if_true, if_false, Bool.false_eq_true, Int.lt_irrefl, implies_true, true_and, and_true, eq_self, and_self, beq_self_eq_true, aw_plan (id := 1) plL34_34_1, plL34_34_1]
    refine PC.step (p130) fun m4 j4 => ?_
    try simp only [Heap.next_push, Heap.next_set, Heap.next_kill, next_bump, next_E0] at j4
    simp (maxSteps := 1000000) (disch := first | exact sd | fail) only [go_sem, Nat.reduceAdd, Nat.reduceSub, Nat.reduceLeDiff, ↓reduceIte, decide_eq_true_eq, if_true, if_false, Bool.false_eq_true, Int.lt_irrefl, implies_true, true_and, and_true, eq_self, and_self, beq_self_eq_true, aw_plan (id := 1) plL34_34_1, plL34_34_1]
    exact .rfl
theorem lawTemplRights {H : Heap} {xs : List Value} (hf : ∀ b, H.next ≤ b → H.get b = none) (hg : GoodArgs Try.prog H 8 [25, 3] xs) : ACalls Try.prog 6 xs H fun v _ => v = .bool true := by
  obtain ⟨ps, h1, h2, h3⟩ := args_frz hf (by intro t ht; simp only [List.mem_cons, List.not_mem_nil, or_false] at ht; rcases ht with rfl | rfl <;> kernel_rfl) hg
  obtain ⟨p0, ps0, rfl, a0, r0⟩ := h3.cons
  obtain ⟨m, rfl, hm⟩ := a0.templ
  obtain ⟨p1, ps1, rfl, a1, r1⟩ := r0.cons
  obtain ⟨n, rfl, hn⟩ := a1.int Try.underlying3
  obtain rfl := r1.nil
  exact (q34 hm).law h1
end Go.Abs
