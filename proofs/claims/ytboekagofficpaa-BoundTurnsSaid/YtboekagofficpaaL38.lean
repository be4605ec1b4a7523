/- BoundTurns, on values. -/
import Derived.Test.YtboekagofficpaaO16
import Derived.Test.YtboekagofficpaaO7
import Derived.Test.YtboekagofficpaaO8
set_option linter.unusedVariables false
set_option linter.unusedSimpArgs false
namespace Go.Abs
open Go Go.Proofs
set_option maxRecDepth 100000
set_option maxHeartbeats 40000000
def plL38_38_3 : Plan := ⟨[0, 1, 3, 4], [(2, [3], []), (5, [], [6, 7, 8, 9, 10, 12, 13, 14]), (11, [13, 12], []), (15, [], [16, 17, 18]), (19, [], [20, 21])]⟩
theorem p134 : PC Try.prog 7 [] (.bool true) := PC.reckoned T.hm (n := 100000) (by kernel_rfl)
theorem FArg.opts {n : Nat} {p : Value} (h : FArg Try.prog (n + 7) 30 p) : ∃ (d : Int) (th : List RQ) (w : Int), p = Opv d th w ∧ th.length ≤ maxLen ∧ ∀ a ∈ th, LimQ a := by
  obtain ⟨cs, rfl, h1⟩ := h.struct Try.underlying30
  obtain ⟨h1, h2⟩ := h1.struct Try.underlying30
  rw [T.s136] at h1
  have a1 := h2 _ (List.Mem.head _)
  have a2 := h2 _ (List.Mem.tail _ (List.Mem.head _))
  have a3 := h2 _ (List.Mem.tail _ (List.Mem.tail _ (List.Mem.head _)))
  simp only [T.s3, T.s70, List.drop_zero] at a1 a2 a3
  obtain ⟨d, e1, k1⟩ := fgood_i64 (n := n + 5) a1
  obtain ⟨th, e2, k2, l2⟩ := fgood_rats (n := n + 1) a2
  obtain ⟨w, e3, k3⟩ := fgood_i64 (n := n + 5) a3
  refine ⟨d, th, w, ?_, k2, l2⟩
  match cs, h1 with
  | [x, y, z], _ =>
    simp at e1 e2 e3
    rw [e1, e2, e3]
    rfl
theorem q38 {l : RW} {d w r : Int} {th : List RQ} (h : LimW l) (hth : th.length ≤ maxLen) (hq : ∀ a ∈ th, LimQ a) : PC Try.prog 3 [Wv l, Opv d th w, .int .i64 r] (.bool true) := by
  refine PC.of (.cons pu_W (.cons pu_Op (.cons (.ground rfl) .nil))) (.ground rfl) fun N hN => ?_
  have hM : maxLen = 9223372036854775807 := rfl
  have q1 := p133 h
  have q3 := fun ht => @p137 d w r th ht
  have q5 := fun ht => @p138 d w r th ht
  have q6 := fun hs ht => @p139 l d w r th h hs ht
  have q7 := fun hs ht => @p140 l d w r th h hs ht
  obtain ⟨L, S, E, V⟩ := l
  generalize sweepsV ⟨L, S, E, V⟩ d th w r = Z at *
  generalize turnsV d th w r = tv at *
  unfold Wv Opv at *
  try dsimp only at *
  refine ACalls.of_code T.hm (n := 34) Try.func3 rfl rfl rfl rfl ?_; simp only [List.replicate_succ, List.replicate_zero, List.cons_append, List.nil_append]
  simp (maxSteps := 1000000) (disch := first | exact sd | fail) only [go_sem, Nat.reduceAdd, Nat.reduceSub, Nat.reduceLeDiff, ↓reduceIte, decide_eq_true_eq, if_true, if_false, Bool.false_eq_true, Int.lt_irrefl, implies_true, true_and, and_true, eq_self, and_self, beq_self_eq_true, aw_plan (id := 3) plL38_38_3, plL38_38_3]
  refine PK.step q1 ?_
  rintro _ m1 ⟨b, rfl, hb⟩ j1
  cases b with
  | true =>
    simp (maxSteps := 1000000) (disch := first | exact sd | fail) only [go_sem, Nat.reduceAdd, Nat.reduceSub, Nat.reduceLeDiff, ↓reduceIte, decide_eq_true_eq, if_true, if_false, Bool.false_eq_true, Int.lt_irrefl, implies_true, true_and, and_true, eq_self, and_self, beq_self_eq_true, aw_plan (id := 3) plL38_38_3, plL38_38_3]
    refine PC.step (p134) fun m2 j2 => ?_
    try simp only [Heap.next_push, Heap.next_set, Heap.next_kill, next_bump, next_E0] at j2
    simp (maxSteps := 1000000) (disch := first | exact sd | fail) only [go_sem, Nat.reduceAdd, Nat.reduceSub, Nat.reduceLeDiff, ↓reduceIte, decide_eq_true_eq, if_true, if_false, Bool.false_eq_true, Int.lt_irrefl, implies_true, true_and, and_true, eq_self, and_self, beq_self_eq_true, aw_plan (id := 3) plL38_38_3, plL38_38_3]
    exact .rfl
  | false =>
    have j1 : N + 1 + 1 ≤ m1 := j1
    have pf : pFill (.slice none 0 0) 1 [(0, Vv eQ th)] = some [Vv eQ th] := rfl
    simp (maxSteps := 1000000) (disch := first | exact sd | fail) only [go_sem, Nat.reduceAdd, Nat.reduceSub, Nat.reduceLeDiff, ↓reduceIte, decide_eq_true_eq, if_true, if_false, Bool.false_eq_true, Int.lt_irrefl, implies_true, true_and, and_true, eq_self, and_self, beq_self_eq_true, aw_plan (id := 3) plL38_38_3, plL38_38_3, pf]
    generalize hH : (Heap.push _ (AObj.row true 28 [Vv eQ th])) = H
    have gH : H.get m1 = some (.row true 28 [Vv eQ th]) := by rw [← hH]; exact get_push_self (Heap.bump _ m1) _
    have gN : H.get N = some (.row true 27 [Vv eL L, Vv eS S, Vv eE E, Vv eV V]) := by
      rw [← hH, get_push_ne (by simp only [next_bump]; omega), get_bump, get_push_ne (by simp only [next_push, next_E0]; omega)]
      exact get_push_self (E0 N) _
    have gO : H.get (N + 1) = some (.row true 30 [.int .i64 d, Vv eQ th, .int .i64 w]) := by
      rw [← hH, get_push_ne (by simp only [next_bump]; omega), get_bump]
      exact get_push_self ((E0 N).push _) _
    have hN2 : m1 < H.next := by rw [← hH]; simp only [next_push, next_bump]; omega
    have r1 : FzRel Try.prog H (Vv eR [th]) (.slice (some ⟨m1, 0, none⟩) 1 1) := .sl (es := 1) (n := 1) (by decide) (Sl.row (off := 0) gH hN2 (.inr T.s70) (.inr ⟨Nat.le_refl _, by decide⟩) (Nat.le_refl 1)) .refl
    refine PK.peekU (p83U (m := [th]) (by show 1 ≤ _; omega) (fun j => by
      match j with
      | 0 => show th.length ≤ _; omega
      | j + 1 => show 0 ≤ _; omega)) (fun r ⟨d, e, _⟩ => by rw [e]; rfl) (.cons r1 .nil) ?_
    rintro _ ⟨c, rfl, hc⟩
    cases c with
    | true =>
      simp (maxSteps := 1000000) (disch := first | exact sd | fail) only [go_sem, Nat.reduceAdd, Nat.reduceSub, Nat.reduceLeDiff, ↓reduceIte, decide_eq_true_eq, if_true, if_false, Bool.false_eq_true, Int.lt_irrefl, implies_true, true_and, and_true, eq_self, and_self, beq_self_eq_true, aw_plan (id := 3) plL38_38_3, plL38_38_3]
      refine PC.step (p134) fun m3 j3 => ?_
      try simp only [Heap.next_push, Heap.next_set, Heap.next_kill, next_bump, next_E0] at j3
      simp (maxSteps := 1000000) (disch := first | exact sd | fail) only [go_sem, Nat.reduceAdd, Nat.reduceSub, Nat.reduceLeDiff, ↓reduceIte, decide_eq_true_eq, if_true, if_false, Bool.false_eq_true, Int.lt_irrefl, implies_true, true_and, and_true, eq_self, and_self, beq_self_eq_true, aw_plan (id := 3) plL38_38_3, plL38_38_3]
      exact .rfl
    | false =>
      have ht := smT_of hq (hc rfl)
      have hs := hb rfl
      have q3 := q3 ht
      have q5 := q5 ht
      have q6 := q6 hs ht
      have q7 := q7 hs ht
      simp (maxSteps := 1000000) (disch := first | exact sd | fail) only [go_sem, Nat.reduceAdd, Nat.reduceSub, Nat.reduceLeDiff, ↓reduceIte, decide_eq_true_eq, if_true, if_false, Bool.false_eq_true, Int.lt_irrefl, implies_true, true_and, and_true, eq_self, and_self, beq_self_eq_true, aw_plan (id := 3) plL38_38_3, plL38_38_3, gN, gO]
      refine PC.step (q3) fun m3 j3 => ?_
      try simp only [Heap.next_push, Heap.next_set, Heap.next_kill, next_bump, next_E0] at j3
      simp (maxSteps := 1000000) (disch := first | exact sd | fail) only [go_sem, Nat.reduceAdd, Nat.reduceSub, Nat.reduceLeDiff, ↓reduceIte, decide_eq_true_eq, if_true, if_false, Bool.false_eq_true, Int.lt_irrefl, implies_true, true_and, and_true, eq_self, and_self, beq_self_eq_true, aw_plan (id := 3) plL38_38_3, plL38_38_3, gN, gO]
      refine PC.step (q5) fun m4 j4 => ?_
      try simp only [Heap.next_push, Heap.next_set, Heap.next_kill, next_bump, next_E0] at j4
      simp (maxSteps := 1000000) (disch := first | exact sd | fail) only [go_sem, Nat.reduceAdd, Nat.reduceSub, Nat.reduceLeDiff, ↓reduceIte, decide_eq_true_eq, if_true, if_false, Bool.false_eq_true, Int.lt_irrefl, implies_true, true_and, and_true, eq_self, and_self, beq_self_eq_true, aw_plan (id := 3) plL38_38_3, plL38_38_3, gN, gO]
      refine PC.step (q6) fun m5 j5 => ?_
      try simp only [Heap.next_push, Heap.next_set, Heap.next_kill, next_bump, next_E0] at j5
      simp (maxSteps := 1000000) (disch := first | exact sd | fail) only [go_sem, Nat.reduceAdd, Nat.reduceSub, Nat.reduceLeDiff, ↓reduceIte, decide_eq_true_eq, if_true, if_false, Bool.false_eq_true, Int.lt_irrefl, implies_true, true_and, and_true, eq_self, and_self, beq_self_eq_true, aw_plan (id := 3) plL38_38_3, plL38_38_3, gN, gO]
      refine PC.step (q7) fun m6 j6 => ?_
      try simp only [Heap.next_push, Heap.next_set, Heap.next_kill, next_bump, next_E0] at j6
      simp (maxSteps := 1000000) (disch := first | exact sd | fail) only [go_sem, Nat.reduceAdd, Nat.reduceSub, Nat.reduceLeDiff, ↓reduceIte, decide_eq_true_eq, if_true, if_false, Bool.false_eq_true, Int.lt_irrefl, implies_true, true_and, and_true, eq_self, and_self, beq_self_eq_true, aw_plan (id := 3) plL38_38_3, plL38_38_3, gN, gO]
      refine PC.step (p134) fun m7 j7 => ?_
      try simp only [Heap.next_push, Heap.next_set, Heap.next_kill, next_bump, next_E0] at j7
      simp (maxSteps := 1000000) (disch := first | exact sd | fail) only [go_sem, Nat.reduceAdd, Nat.reduceSub, Nat.reduceLeDiff, ↓reduceIte, decide_eq_true_eq, if_true, if_false, Bool.false_eq_true, Int.lt_irrefl, implies_true, true_and, and_true, eq_self, and_self, beq_self_eq_true, aw_plan (id := 3) plL38_38_3, plL38_38_3]
      exact .rfl
theorem lawBoundTurns {H : Heap} {xs : List Value} (hf : ∀ b, H.next ≤ b → H.get b = none) (hg : GoodArgs Try.prog H 12 [27, 30, 3] xs) : ACalls Try.prog 3 xs H fun v _ => v = .bool true := by
  obtain ⟨ps, h1, h2, h3⟩ := args_frz hf (by intro t ht; simp only [List.mem_cons, List.not_mem_nil, or_false] at ht; rcases ht with rfl | rfl | rfl <;> kernel_rfl) hg
  obtain ⟨p0, ps0, rfl, a0, r0⟩ := h3.cons
  obtain ⟨l, rfl, hl⟩ := a0.low
  obtain ⟨p1, ps1, rfl, a1, r1⟩ := r0.cons
  obtain ⟨d, th, w, rfl, ht, hq⟩ := a1.opts
  obtain ⟨p2, ps2, rfl, a2, r2⟩ := r1.cons
  obtain ⟨r, rfl, hr⟩ := a2.int Try.underlying3
  obtain rfl := r2.nil
  exact (q38 hl ht hq).law h1
end Go.Abs
