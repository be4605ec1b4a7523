/- OrderEdges, on values. -/
import Derived.Test.YtboekagofficpaaGreatL288
import Derived.Test.YtboekagofficpaaGreatO21
set_option linter.unusedVariables false
set_option linter.unusedSimpArgs false
namespace Go.Abs
open Go Go.Proofs
set_option maxRecDepth 100000
set_option maxHeartbeats 40000000
theorem FArg.ints8U {n : Nat} {p : Value} (h : FArg Tryz.prog (n + 2) 40 p) : ∃ l : List Int, p = Vv eY l ∧ l.length ≤ maxLen ∧ ∀ a ∈ l, 0 ≤ a ∧ a < 256 := by
  obtain ⟨len, cells, e, h1, h2, h3⟩ := FGood.slice (n := n + 1) (h.slice Tryz.underlying40) Tryz.underlying40
  rw [T.s5] at h2 h3
  obtain ⟨l, k1, k2, k3⟩ := row_of eY (fun x => 0 ≤ x ∧ x < 256) (cells := cells) (k := len) h2 (by decide) (fun i hi => by
    obtain ⟨m, q1, q2⟩ := (h3 i hi).int Tryz.underlying5
    exact ⟨m, q1, wf_u8 q2⟩)
  subst k1
  injection e with e
  exact ⟨l, by rw [e, k2]; rfl, h1, k3⟩
theorem q289 {n : Int} {ns : List Int} (hn : 0 ≤ n ∧ n < 256) (hs : ∀ x ∈ ns, 0 ≤ x ∧ x < 256) (hl : ns.length ≤ maxLen) : PC Tryz.prog 4 [.int .u8 n, Vv eY ns] (.bool true) := by
  have hM : maxLen = 9223372036854775807 := rfl
  have hY : Pu (Vv eY ns) := pu_flat1 fun _ => .cons (.ground rfl) .nil
  refine PC.of (.cons (.ground rfl) (.cons hY .nil)) (.ground rfl) fun N hN => ?_
  have q141 := p141 hn hs (by omega)
  obtain ⟨ok1, _, lm1, sm1, _, _, hE40⟩ := edg_okU (ns := ns) hn.1
  have q2 := p205 lm1 sm1
  have q3 := p206 lm1 sm1
  obtain ⟨h1, h2⟩ := ord_len ok1
  unfold ordR at q2 q3
  rw [ok1, if_pos rfl] at q2 q3
  generalize ordO (ordS (edgW n ns).edges (edgW n ns).locs.length) (edgW n ns).locs.length = o at *
  generalize (ordS (edgW n ns).edges (edgW n ns).locs.length).head = hd at *
  clear ok1 lm1 sm1 hE40
  generalize edgW n ns = l at *
  obtain ⟨L, S, E, V⟩ := l
  unfold Wv at *
  try dsimp only at *
  refine ACalls.of_code T.hm (n := 44) Tryz.func4 rfl rfl rfl rfl ?_; simp only [List.replicate_succ, List.replicate_zero, List.cons_append, List.nil_append]
  simp (maxSteps := 1000000) (disch := first | exact sd | fail) only [go_sem, Nat.reduceAdd, Nat.reduceSub, Nat.reduceLeDiff, ↓reduceIte, decide_eq_true_eq, if_true, if_false, Bool.false_eq_true, Int.lt_irrefl, implies_true, true_and, and_true, eq_self, and_self, beq_self_eq_true]
  refine PC.step (q141) fun m1 j1 => ?_
  try simp only [Heap.next_push, Heap.next_set, Heap.next_kill, next_bump, next_E0] at j1
  simp (maxSteps := 30000000) (disch := first | exact sd | fail) only [go_sem, Nat.reduceAdd, Nat.reduceSub, Nat.reduceLeDiff, ↓reduceIte, decide_eq_true_eq, if_true, if_false, Bool.false_eq_true, Int.lt_irrefl, implies_true, true_and, and_true, eq_self, and_self, beq_self_eq_true]
  refine PC.step (q2) fun m2 j2 => ?_
  try simp only [Heap.next_push, Heap.next_set, Heap.next_kill, next_bump, next_E0] at j2
  simp (maxSteps := 30000000) (disch := first | exact sd | fail) only [go_sem, Nat.reduceAdd, Nat.reduceSub, Nat.reduceLeDiff, ↓reduceIte, decide_eq_true_eq, if_true, if_false, Bool.false_eq_true, Int.lt_irrefl, implies_true, true_and, and_true, eq_self, and_self, beq_self_eq_true]
  refine PC.step (q3) fun m3 j3 => ?_
  try simp only [Heap.next_push, Heap.next_set, Heap.next_kill, next_bump, next_E0] at j3
  simp (maxSteps := 30000000) (disch := first | exact sd | fail) only [go_sem, Nat.reduceAdd, Nat.reduceSub, Nat.reduceLeDiff, ↓reduceIte, decide_eq_true_eq, if_true, if_false, Bool.false_eq_true, Int.lt_irrefl, implies_true, true_and, and_true, eq_self, and_self, beq_self_eq_true]
  refine PC.step (p45 (x := 0)) fun m4 j4 => ?_
  try simp only [Heap.next_push, Heap.next_set, Heap.next_kill, next_bump, next_E0] at j4
  simp (maxSteps := 30000000) (disch := first | exact sd | fail) only [go_sem, Nat.reduceAdd, Nat.reduceSub, Nat.reduceLeDiff, ↓reduceIte, decide_eq_true_eq, if_true, if_false, Bool.false_eq_true, Int.lt_irrefl, implies_true, true_and, and_true, eq_self, and_self, beq_self_eq_true]
  refine PC.step (p295 h1) fun m5 j5 => ?_
  try simp only [Heap.next_push, Heap.next_set, Heap.next_kill, next_bump, next_E0] at j5
  simp (maxSteps := 30000000) (disch := first | exact sd | fail) only [go_sem, Nat.reduceAdd, Nat.reduceSub, Nat.reduceLeDiff, ↓reduceIte, decide_eq_true_eq, if_true, if_false, Bool.false_eq_true, Int.lt_irrefl, implies_true, true_and, and_true, eq_self, and_self, beq_self_eq_true]
  refine PC.step (p296 h2) fun m6 j6 => ?_
  try simp only [Heap.next_push, Heap.next_set, Heap.next_kill, next_bump, next_E0] at j6
  simp (maxSteps := 30000000) (disch := first | exact sd | fail) only [go_sem, Nat.reduceAdd, Nat.reduceSub, Nat.reduceLeDiff, ↓reduceIte, decide_eq_true_eq, if_true, if_false, Bool.false_eq_true, Int.lt_irrefl, implies_true, true_and, and_true, eq_self, and_self, beq_self_eq_true]
  refine PC.step (p294) fun m7 j7 => ?_
  try simp only [Heap.next_push, Heap.next_set, Heap.next_kill, next_bump, next_E0] at j7
  simp (maxSteps := 30000000) (disch := first | exact sd | fail) only [go_sem, Nat.reduceAdd, Nat.reduceSub, Nat.reduceLeDiff, ↓reduceIte, decide_eq_true_eq, if_true, if_false, Bool.false_eq_true, Int.lt_irrefl, implies_true, true_and, and_true, eq_self, and_self, beq_self_eq_true]
  exact .rfl
theorem lawOrderEdges {H : Heap} {xs : List Value} (hf : ∀ b, H.next ≤ b → H.get b = none) (hg : GoodArgs Tryz.prog H 8 [5, 40] xs) : ACalls Tryz.prog 4 xs H fun v _ => v = .bool true := by
  obtain ⟨ps, h1, h2, h3⟩ := args_frz hf (by intro t ht; simp only [List.mem_cons, List.not_mem_nil, or_false] at ht; rcases ht with rfl | rfl <;> kernel_rfl) hg
  obtain ⟨p0, ps0, rfl, a0, r0⟩ := h3.cons
  obtain ⟨n, rfl, hn⟩ := a0.int Tryz.underlying5
  obtain ⟨p1, ps1, rfl, a1, r1⟩ := r0.cons
  obtain ⟨ns, rfl, hl, hs⟩ := a1.ints8U
  obtain rfl := r1.nil
  exact (q289 (wf_u8 hn) hs hl).law h1
end Go.Abs
