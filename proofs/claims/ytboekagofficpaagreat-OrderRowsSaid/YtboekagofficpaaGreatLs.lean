/- Joined: L288, L289, L290, L291, L292, L293. -/
import Derived.Test.YtboekagofficpaaGreatO20
import Derived.Test.YtboekagofficpaaGreatOr
import Derived.Test.YtboekagofficpaaGreatOp
/- OrderAll, on values. -/
set_option linter.unusedVariables false
set_option linter.unusedSimpArgs false
namespace Go.Abs
open Go Go.Proofs
set_option maxRecDepth 100000
set_option maxHeartbeats 40000000
theorem ord_len {l : RW} (h : okW l = true) : (ordO (ordS l.edges l.locs.length) l.locs.length).length ≤ 2 ^ 30 ∧ (ordS l.edges l.locs.length).head.length ≤ 2 ^ 30 := by
  have oi := ordS_OI h
  have hn := okW_n h
  have h1 := oi.head
  have h2 := oi.left
  have h3 := rest_len (s := ordS l.edges l.locs.length) (k := l.locs.length)
  unfold ordO
  rw [List.length_append, List.length_reverse]
  omega
theorem q288 {l : RW} (h : LimW l) : PC Tryz.prog 3 [Wv l] (.bool true) := by
  refine PC.of (.cons pu_W .nil) (.ground rfl) fun N hN => ?_
  have q1 := p133 h
  have q2 := fun hs => @p205 l h hs
  have q3 := fun hs => @p206 l h hs
  have hl := @ord_len l
  unfold ordR at q2 q3
  generalize okW l = w at *
  generalize ordO (ordS l.edges l.locs.length) l.locs.length = o at *
  generalize (ordS l.edges l.locs.length).head = hd at *
  obtain ⟨L, S, E, V⟩ := l
  unfold Wv at *
  try dsimp only at *
  refine ACalls.of_code T.hm (n := 49) Tryz.func3 rfl rfl rfl rfl ?_; simp only [List.replicate_succ, List.replicate_zero, List.cons_append, List.nil_append]
  simp (maxSteps := 1000000) (disch := first | exact sd | fail) only [go_sem, Nat.reduceAdd, Nat.reduceSub, Nat.reduceLeDiff, ↓reduceIte, decide_eq_true_eq, if_true, if_false, Bool.false_eq_true, Int.lt_irrefl, implies_true, true_and, and_true, eq_self, and_self, beq_self_eq_true]
  refine PK.step q1 ?_
  rintro _ m1 ⟨b, rfl, hb⟩ j1
  cases b with
  | true =>
    simp (maxSteps := 1000000) (disch := first | exact sd | fail) only [go_sem, Nat.reduceAdd, Nat.reduceSub, Nat.reduceLeDiff, ↓reduceIte, decide_eq_true_eq, if_true, if_false, Bool.false_eq_true, Int.lt_irrefl, implies_true, true_and, and_true, eq_self, and_self, beq_self_eq_true]
    refine PC.step (p294) fun m2 j2 => ?_
    try simp only [Heap.next_push, Heap.next_set, Heap.next_kill, next_bump, next_E0] at j2
    simp (maxSteps := 1000000) (disch := first | exact sd | fail) only [go_sem, Nat.reduceAdd, Nat.reduceSub, Nat.reduceLeDiff, ↓reduceIte, decide_eq_true_eq, if_true, if_false, Bool.false_eq_true, Int.lt_irrefl, implies_true, true_and, and_true, eq_self, and_self, beq_self_eq_true]
    exact .rfl
  | false =>
    have q2 := q2 (hb rfl)
    have q3 := q3 (hb rfl)
    cases w with
    | true =>
      rw [if_pos rfl] at q2 q3
      obtain ⟨h1, h2⟩ := hl rfl
      simp (maxSteps := 30000000) (disch := first | exact sd | fail) only [go_sem, Nat.reduceAdd, Nat.reduceSub, Nat.reduceLeDiff, ↓reduceIte, decide_eq_true_eq, if_true, if_false, Bool.false_eq_true, Int.lt_irrefl, implies_true, true_and, and_true, eq_self, and_self, beq_self_eq_true]
      refine PC.step (q2) fun m2 j2 => ?_
      try simp only [Heap.next_push, Heap.next_set, Heap.next_kill, next_bump, next_E0] at j2
      simp (maxSteps := 30000000) (disch := first | exact sd | fail) only [go_sem, Nat.reduceAdd, Nat.reduceSub, Nat.reduceLeDiff, ↓reduceIte, decide_eq_true_eq, if_true, if_false, Bool.false_eq_true, Int.lt_irrefl, implies_true, true_and, and_true, eq_self, and_self, beq_self_eq_true]
      refine PC.step (q3) fun m3 j3 => ?_
      try simp only [Heap.next_push, Heap.next_set, Heap.next_kill, next_bump, next_E0] at j3
      simp (maxSteps := 30000000) (disch := first | exact sd | fail) only [go_sem, Nat.reduceAdd, Nat.reduceSub, Nat.reduceLeDiff, ↓reduceIte, decide_eq_true_eq, if_true, if_false, Bool.false_eq_true, Int.lt_irrefl, implies_true, true_and, and_true, eq_self, and_self, beq_self_eq_true]
      refine PC.step (p295 h1) fun m4 j4 => ?_
      try simp only [Heap.next_push, Heap.next_set, Heap.next_kill, next_bump, next_E0] at j4
      simp (maxSteps := 30000000) (disch := first | exact sd | fail) only [go_sem, Nat.reduceAdd, Nat.reduceSub, Nat.reduceLeDiff, ↓reduceIte, decide_eq_true_eq, if_true, if_false, Bool.false_eq_true, Int.lt_irrefl, implies_true, true_and, and_true, eq_self, and_self, beq_self_eq_true]
      refine PC.step (p296 h2) fun m5 j5 => ?_
      try simp only [Heap.next_push, Heap.next_set, Heap.next_kill, next_bump, next_E0] at j5
      simp (maxSteps := 30000000) (disch := first | exact sd | fail) only [go_sem, Nat.reduceAdd, Nat.reduceSub, Nat.reduceLeDiff, ↓reduceIte, decide_eq_true_eq, if_true, if_false, Bool.false_eq_true, Int.lt_irrefl, implies_true, true_and, and_true, eq_self, and_self, beq_self_eq_true]
      refine PC.step (p45 (x := 0)) fun m6 j6 => ?_
      try simp only [Heap.next_push, Heap.next_set, Heap.next_kill, next_bump, next_E0] at j6
      simp (maxSteps := 30000000) (disch := first | exact sd | fail) only [go_sem, Nat.reduceAdd, Nat.reduceSub, Nat.reduceLeDiff, ↓reduceIte, decide_eq_true_eq, if_true, if_false, Bool.false_eq_true, Int.lt_irrefl, implies_true, true_and, and_true, eq_self, and_self, beq_self_eq_true]
      refine PC.step (p294) fun m7 j7 => ?_
      try simp only [Heap.next_push, Heap.next_set, Heap.next_kill, next_bump, next_E0] at j7
      simp (maxSteps := 30000000) (disch := first | exact sd | fail) only [go_sem, Nat.reduceAdd, Nat.reduceSub, Nat.reduceLeDiff, ↓reduceIte, decide_eq_true_eq, if_true, if_false, Bool.false_eq_true, Int.lt_irrefl, implies_true, true_and, and_true, eq_self, and_self, beq_self_eq_true]
      exact .rfl
    | false =>
      rw [if_neg (by decide)] at q2 q3
      simp (maxSteps := 30000000) (disch := first | exact sd | fail) only [go_sem, Nat.reduceAdd, Nat.reduceSub, Nat.reduceLeDiff, ↓reduceIte, decide_eq_true_eq, if_true, if_false, Bool.false_eq_true, Int.lt_irrefl, implies_true, true_and, and_true, eq_self, and_self, beq_self_eq_true]
      refine PC.step (q2) fun m2 j2 => ?_
      try simp only [Heap.next_push, Heap.next_set, Heap.next_kill, next_bump, next_E0] at j2
      simp (maxSteps := 30000000) (disch := first | exact sd | fail) only [go_sem, Nat.reduceAdd, Nat.reduceSub, Nat.reduceLeDiff, ↓reduceIte, decide_eq_true_eq, if_true, if_false, Bool.false_eq_true, Int.lt_irrefl, implies_true, true_and, and_true, eq_self, and_self, beq_self_eq_true]
      refine PC.step (q3) fun m3 j3 => ?_
      try simp only [Heap.next_push, Heap.next_set, Heap.next_kill, next_bump, next_E0] at j3
      simp (maxSteps := 30000000) (disch := first | exact sd | fail) only [go_sem, Nat.reduceAdd, Nat.reduceSub, Nat.reduceLeDiff, ↓reduceIte, decide_eq_true_eq, if_true, if_false, Bool.false_eq_true, Int.lt_irrefl, implies_true, true_and, and_true, eq_self, and_self, beq_self_eq_true]
      refine PC.step (p295 (l := []) (by decide)) fun m4 j4 => ?_
      try simp only [Heap.next_push, Heap.next_set, Heap.next_kill, next_bump, next_E0] at j4
      simp (maxSteps := 30000000) (disch := first | exact sd | fail) only [go_sem, Nat.reduceAdd, Nat.reduceSub, Nat.reduceLeDiff, ↓reduceIte, decide_eq_true_eq, if_true, if_false, Bool.false_eq_true, Int.lt_irrefl, implies_true, true_and, and_true, eq_self, and_self, beq_self_eq_true]
      refine PC.step (p296 (l := []) (by decide)) fun m5 j5 => ?_
      try simp only [Heap.next_push, Heap.next_set, Heap.next_kill, next_bump, next_E0] at j5
      simp (maxSteps := 30000000) (disch := first | exact sd | fail) only [go_sem, Nat.reduceAdd, Nat.reduceSub, Nat.reduceLeDiff, ↓reduceIte, decide_eq_true_eq, if_true, if_false, Bool.false_eq_true, Int.lt_irrefl, implies_true, true_and, and_true, eq_self, and_self, beq_self_eq_true]
      refine PC.step (p45 (x := 1)) fun m6 j6 => ?_
      try simp only [Heap.next_push, Heap.next_set, Heap.next_kill, next_bump, next_E0] at j6
      simp (maxSteps := 30000000) (disch := first | exact sd | fail) only [go_sem, Nat.reduceAdd, Nat.reduceSub, Nat.reduceLeDiff, ↓reduceIte, decide_eq_true_eq, if_true, if_false, Bool.false_eq_true, Int.lt_irrefl, implies_true, true_and, and_true, eq_self, and_self, beq_self_eq_true]
      refine PC.step (p45 (x := 1)) fun m7 j7 => ?_
      try simp only [Heap.next_push, Heap.next_set, Heap.next_kill, next_bump, next_E0] at j7
      simp (maxSteps := 30000000) (disch := first | exact sd | fail) only [go_sem, Nat.reduceAdd, Nat.reduceSub, Nat.reduceLeDiff, ↓reduceIte, decide_eq_true_eq, if_true, if_false, Bool.false_eq_true, Int.lt_irrefl, implies_true, true_and, and_true, eq_self, and_self, beq_self_eq_true]
      refine PC.step (p294) fun m8 j8 => ?_
      try simp only [Heap.next_push, Heap.next_set, Heap.next_kill, next_bump, next_E0] at j8
      simp (maxSteps := 30000000) (disch := first | exact sd | fail) only [go_sem, Nat.reduceAdd, Nat.reduceSub, Nat.reduceLeDiff, ↓reduceIte, decide_eq_true_eq, if_true, if_false, Bool.false_eq_true, Int.lt_irrefl, implies_true, true_and, and_true, eq_self, and_self, beq_self_eq_true]
      exact .rfl
theorem lawOrderAll {H : Heap} {xs : List Value} (hf : ∀ b, H.next ≤ b → H.get b = none) (hg : GoodArgs Tryz.prog H 12 [27] xs) : ACalls Tryz.prog 3 xs H fun v _ => v = .bool true := by
  obtain ⟨ps, h1, h2, h3⟩ := args_frz hf (by intro t ht; simp only [List.mem_cons, List.not_mem_nil, or_false] at ht; rcases ht with rfl; kernel_rfl) hg
  obtain ⟨p0, ps0, rfl, a0, r0⟩ := h3.cons
  obtain ⟨l, rfl, hl⟩ := a0.low
  obtain rfl := r0.nil
  exact (q288 hl).law h1
end Go.Abs

/- OrderEdges, on values. -/
set_option linter.unusedVariables false
set_option linter.unusedSimpArgs false
namespace Go.Abs
open Go Go.Proofs
set_option maxRecDepth 100000
set_option maxHeartbeats 40000000
theorem FArg.ints8U {n : Nat} {p : Value} (h : FArg Tryz.prog (n + 2) 40 p) : ∃ l : List Int, p = Vv eY l ∧ l.length ≤ maxLen ∧ ∀ a ∈ l, 0 ≤ a ∧ a < 256 := by
  obtain ⟨len, cells, e, h1, h2, h3⟩ := FGood.slice (n := n + 1) (h.slice Tryz.underlying40) Tryz.underlying40
  rw [T.s5] at h2 h3
  obtain ⟨l, k1, k2, k3⟩ := row_of eY (fun x => 0 ≤ x ∧ x < 256) (cells := cells) (k := len) h2 (by decide) (fun i hi => by
    obtain ⟨m, q1, q2⟩ := (h3 i hi).int Tryz.underlying5
    exact ⟨m, q1, wf_u8 q2⟩)
  subst k1
  injection e with e
  exact ⟨l, by rw [e, k2]; rfl, h1, k3⟩
theorem q289 {n : Int} {ns : List Int} (hn : 0 ≤ n ∧ n < 256) (hs : ∀ x ∈ ns, 0 ≤ x ∧ x < 256) (hl : ns.length ≤ maxLen) : PC Tryz.prog 4 [.int .u8 n, Vv eY ns] (.bool true) := by
  have hM : maxLen = 9223372036854775807 := rfl
  have hY : Pu (Vv eY ns) := pu_flat1 fun _ => .cons (.ground rfl) .nil
  refine PC.of (.cons (.ground rfl) (.cons hY .nil)) (.ground rfl) fun N hN => ?_
  have q141 := p141 hn hs (by omega)
  obtain ⟨ok1, _, lm1, sm1, _, _, hE40⟩ := edg_okU (ns := ns) hn.1
  have q2 := p205 lm1 sm1
  have q3 := p206 lm1 sm1
  obtain ⟨h1, h2⟩ := ord_len ok1
  unfold ordR at q2 q3
  rw [ok1, if_pos rfl] at q2 q3
  generalize ordO (ordS (edgW n ns).edges (edgW n ns).locs.length) (edgW n ns).locs.length = o at *
  generalize (ordS (edgW n ns).edges (edgW n ns).locs.length).head = hd at *
  clear ok1 lm1 sm1 hE40
  generalize edgW n ns = l at *
  obtain ⟨L, S, E, V⟩ := l
  unfold Wv at *
  try dsimp only at *
  refine ACalls.of_code T.hm (n := 44) Tryz.func4 rfl rfl rfl rfl ?_; simp only [List.replicate_succ, List.replicate_zero, List.cons_append, List.nil_append]
  simp (maxSteps := 1000000) (disch := first | exact sd | fail) only [go_sem, Nat.reduceAdd, Nat.reduceSub, Nat.reduceLeDiff, ↓reduceIte, decide_eq_true_eq, if_true, if_false, Bool.false_eq_true, Int.lt_irrefl, implies_true, true_and, and_true, eq_self, and_self, beq_self_eq_true]
  refine PC.step (q141) fun m1 j1 => ?_
  try simp only [Heap.next_push, Heap.next_set, Heap.next_kill, next_bump, next_E0] at j1
  simp (maxSteps := 30000000) (disch := first | exact sd | fail) only [go_sem, Nat.reduceAdd, Nat.reduceSub, Nat.reduceLeDiff, ↓reduceIte, decide_eq_true_eq, if_true, if_false, Bool.false_eq_true, Int.lt_irrefl, implies_true, true_and, and_true, eq_self, and_self, beq_self_eq_true]
  refine PC.step (q2) fun m2 j2 => ?_
  try simp only [Heap.next_push, Heap.next_set, Heap.next_kill, next_bump, next_E0] at j2
  simp (maxSteps := 30000000) (disch := first | exact sd | fail) only [go_sem, Nat.reduceAdd, Nat.reduceSub, Nat.reduceLeDiff, ↓reduceIte, decide_eq_true_eq, if_true, if_false, Bool.false_eq_true, Int.lt_irrefl, implies_true, true_and, and_true, eq_self, and_self, beq_self_eq_true]
  refine PC.step (q3) fun m3 j3 => ?_
  try simp only [Heap.next_push, Heap.next_set, Heap.next_kill, next_bump, next_E0] at j3
  simp (maxSteps := 30000000) (disch := first | exact sd | fail) only [go_sem, Nat.reduceAdd, Nat.reduceSub, Nat.reduceLeDiff, ↓reduceIte, decide_eq_true_eq, if_true, if_false, Bool.false_eq_true, Int.lt_irrefl, implies_true, true_and, and_true, eq_self, and_self, beq_self_eq_true]
  refine PC.step (p45 (x := 0)) fun m4 j4 => ?_
  try simp only [Heap.next_push, Heap.next_set, Heap.next_kill, next_bump, next_E0] at j4
  simp (maxSteps := 30000000) (disch := first | exact sd | fail) only [go_sem, Nat.reduceAdd, Nat.reduceSub, Nat.reduceLeDiff, ↓reduceIte, decide_eq_true_eq, if_true, if_false, Bool.false_eq_true, Int.lt_irrefl, implies_true, true_and, and_true, eq_self, and_self, beq_self_eq_true]
  refine PC.step (p295 h1) fun m5 j5 => ?_
  try simp only [Heap.next_push, Heap.next_set, Heap.next_kill, next_bump, next_E0] at j5
  simp (maxSteps := 30000000) (disch := first | exact sd | fail) only [go_sem, Nat.reduceAdd, Nat.reduceSub, Nat.reduceLeDiff, ↓reduceIte, decide_eq_true_eq, if_true, if_false, Bool.false_eq_true, Int.lt_irrefl, implies_true, true_and, and_true, eq_self, and_self, beq_self_eq_true]
  refine PC.step (p296 h2) fun m6 j6 => ?_
  try simp only [Heap.next_push, Heap.next_set, Heap.next_kill, next_bump, next_E0] at j6
  simp (maxSteps := 30000000) (disch := first | exact sd | fail) only [go_sem, Nat.reduceAdd, Nat.reduceSub, Nat.reduceLeDiff, ↓reduceIte, decide_eq_true_eq, if_true, if_false, Bool.false_eq_true, Int.lt_irrefl, implies_true, true_and, and_true, eq_self, and_self, beq_self_eq_true]
  refine PC.step (p294) fun m7 j7 => ?_
  try simp only [Heap.next_push, Heap.next_set, Heap.next_kill, next_bump, next_E0] at j7
  simp (maxSteps := 30000000) (disch := first | exact sd | fail) only [go_sem, Nat.reduceAdd, Nat.reduceSub, Nat.reduceLeDiff, ↓reduceIte, decide_eq_true_eq, if_true, if_false, Bool.false_eq_true, Int.lt_irrefl, implies_true, true_and, and_true, eq_self, and_self, beq_self_eq_true]
  exact .rfl
theorem lawOrderEdges {H : Heap} {xs : List Value} (hf : ∀ b, H.next ≤ b → H.get b = none) (hg : GoodArgs Tryz.prog H 8 [5, 40] xs) : ACalls Tryz.prog 4 xs H fun v _ => v = .bool true := by
  obtain ⟨ps, h1, h2, h3⟩ := args_frz hf (by intro t ht; simp only [List.mem_cons, List.not_mem_nil, or_false] at ht; rcases ht with rfl | rfl <;> kernel_rfl) hg
  obtain ⟨p0, ps0, rfl, a0, r0⟩ := h3.cons
  obtain ⟨n, rfl, hn⟩ := a0.int Tryz.underlying5
  obtain ⟨p1, ps1, rfl, a1, r1⟩ := r0.cons
  obtain ⟨ns, rfl, hl, hs⟩ := a1.ints8U
  obtain rfl := r1.nil
  exact (q289 (wf_u8 hn) hs hl).law h1
end Go.Abs

/- OrderBack, on values. -/
set_option linter.unusedVariables false
set_option linter.unusedSimpArgs false
namespace Go.Abs
open Go Go.Proofs
set_option maxRecDepth 100000
set_option maxHeartbeats 40000000
theorem sp_intU {l : List Int} {i : Nat} {x : Int} (h : i < l.length) : splice (l.map (.int .i64)) i [.int .i64 x] = (l.set i x).map (.int .i64) := by
  rw [splice_eq _ _ _ (by simp; omega), List.map_set, List.set_eq_take_append_cons_drop, if_pos (by simpa using h), List.append_assoc]
  rfl
theorem inE_ok {l : RW} (h : okW l = true) : InE l.edges l.locs.length := fun e he => by
  obtain ⟨i, hi, rfl⟩ := List.getElem_of_mem he
  have := okW_E h hi
  rw [List.getD_eq_getElem?_getD, List.getElem?_eq_getElem hi] at this
  exact this
theorem memE {E : List RE} {j : Nat} (h : j < E.length) : E.getD j eE.d ∈ E := by
  rw [List.getD_eq_getElem?_getD, List.getElem?_eq_getElem h]
  exact List.getElem_mem _
theorem q290 {n : Int} {ns : List Int} (hn : 0 ≤ n ∧ n < 256) (hs : ∀ x ∈ ns, 0 ≤ x ∧ x < 256) (hl : ns.length ≤ maxLen) : PC Tryz.prog 5 [.int .u8 n, Vv eY ns] (.bool true) := by
  have hM : maxLen = 9223372036854775807 := rfl
  have hY : Pu (Vv eY ns) := pu_flat1 fun _ => .cons (.ground rfl) .nil
  refine PC.of (.cons (.ground rfl) (.cons hY .nil)) (.ground rfl) fun N hN => ?_
  have q141 := p141 hn hs (by omega)
  obtain ⟨ok1, _, lm1, sm1, _, _, hE40⟩ := edg_okU (ns := ns) hn.1
  have q2 := p205 lm1 sm1
  obtain ⟨w1, w2, w3⟩ := okW_n ok1
  have wE := @okW_E _ ok1
  have hin := inE_ok ok1
  have q297 := p297 w1 w2 w3 fun j hj => wE hj
  have f1 := ordO_len (by omega) hin
  have f2 := ordO_in (by omega) hin
  have f3 := ordO_nodup (by omega) hin
  have f4 := ordO_first (E := (edgW n ns).edges) (n := (edgW n ns).locs.length) (by omega)
  have f5 := (ordS_OI ok1).head
  have f7 := comeK_len (E := (edgW n ns).edges) (n := (edgW n ns).locs.length) (k := (edgW n ns).locs.length)
  have f6 : ∀ j, j < (edgW n ns).edges.length → (comeK (edgW n ns).edges (edgW n ns).locs.length (edgW n ns).locs.length).getD ((edgW n ns).edges.getD j eE.d).f.toNat false = true → (ordS (edgW n ns).edges (edgW n ns).locs.length).head.getD ((edgW n ns).edges.getD j eE.d).t.toNat false = false →
      (atK (ordO (ordS (edgW n ns).edges (edgW n ns).locs.length) (edgW n ns).locs.length) (edgW n ns).locs.length (edgW n ns).locs.length).getD ((edgW n ns).edges.getD j eE.d).f.toNat 0 < (atK (ordO (ordS (edgW n ns).edges (edgW n ns).locs.length) (edgW n ns).locs.length) (edgW n ns).locs.length (edgW n ns).locs.length).getD ((edgW n ns).edges.getD j eE.d).t.toNat 0 := fun j hj hc hh => by
    obtain ⟨a, b, hab, hb, ha1, hb1⟩ := ordO_back (by omega) hin (memE hj) hc hh
    have k1 := atK_at f2 f3 (edgW n ns).locs.length a (by omega) (by omega)
    have k2 := atK_at f2 f3 (edgW n ns).locs.length b (by omega) (by omega)
    rw [ha1] at k1
    rw [hb1] at k2
    omega
  unfold ordR at q2
  rw [ok1, if_pos rfl] at q2
  generalize ordO (ordS (edgW n ns).edges (edgW n ns).locs.length) (edgW n ns).locs.length = o at *
  generalize (ordS (edgW n ns).edges (edgW n ns).locs.length).head = hd at *
  generalize comeK (edgW n ns).edges (edgW n ns).locs.length (edgW n ns).locs.length = cm at *
  clear ok1 lm1 sm1 hin
  generalize edgW n ns = l at *
  obtain ⟨L, S, E, V⟩ := l
  unfold Wv at *
  dsimp only at *
  generalize hLn : L.length = k at *
  have o0 : (0 : Int) < (k : Int) := by omega
  have o0' : o.getD (Int.toNat 0) 0 = 0 := f4
  refine ACalls.of_code T.hm (n := 128) Tryz.func5 rfl rfl rfl rfl ?_; simp only [List.replicate_succ, List.replicate_zero, List.cons_append, List.nil_append]
  simp (maxSteps := 1000000) (disch := first | exact sd | fail) only [go_sem, Nat.reduceAdd, Nat.reduceSub, Nat.reduceLeDiff, ↓reduceIte, decide_eq_true_eq, if_true, if_false, Bool.false_eq_true, Int.lt_irrefl, implies_true, true_and, and_true, eq_self, and_self, beq_self_eq_true, aw_drawn (id := 17), aw_drawn' (id := 17)]
  refine PC.step (q141) fun m1 j1 => ?_
  try simp only [Heap.next_push, Heap.next_set, Heap.next_kill, next_bump, next_E0] at j1
  simp (maxSteps := 30000000) (disch := first | exact sd | fail) only [go_sem, Nat.reduceAdd, Nat.reduceSub, Nat.reduceLeDiff, ↓reduceIte, decide_eq_true_eq, if_true, if_false, Bool.false_eq_true, Int.lt_irrefl, implies_true, true_and, and_true, eq_self, and_self, beq_self_eq_true, aw_drawn (id := 17), aw_drawn' (id := 17)]
  refine PC.step (q2) fun m2 j2 => ?_
  try simp only [Heap.next_push, Heap.next_set, Heap.next_kill, next_bump, next_E0] at j2
  simp (maxSteps := 30000000) (disch := first | exact sd | fail) only [go_sem, Nat.reduceAdd, Nat.reduceSub, Nat.reduceLeDiff, ↓reduceIte, decide_eq_true_eq, if_true, if_false, Bool.false_eq_true, Int.lt_irrefl, implies_true, true_and, and_true, eq_self, and_self, beq_self_eq_true, aw_drawn (id := 17), aw_drawn' (id := 17)]
  refine PC.step (p45 (x := 0)) fun m3 j3 => ?_
  try simp only [Heap.next_push, Heap.next_set, Heap.next_kill, next_bump, next_E0] at j3
  simp (maxSteps := 30000000) (disch := first | exact sd | fail) only [go_sem, Nat.reduceAdd, Nat.reduceSub, Nat.reduceLeDiff, ↓reduceIte, decide_eq_true_eq, if_true, if_false, Bool.false_eq_true, Int.lt_irrefl, implies_true, true_and, and_true, eq_self, and_self, beq_self_eq_true, aw_drawn (id := 17), aw_drawn' (id := 17), hLn, f1, f5, o0, o0', ne_eq, not_true_eq_false, aMk_int, Int.toNat_natCast]
  refine aw_loopJ (σ := Nat) (fun s J => [J 0, J 1, J 2, J 3, .bool false, .pointer (some ⟨m1, 0, none⟩), Vv eN o, Vv eB hd, J 8, .slice (some ⟨m3, 0, none⟩) k k, .int .i64 s, J 11, J 12, J 13, J 14, J 15, J 16, J 17, J 18, J 19, J 20, J 21, J 22, J 23, J 24, J 25, J 26, J 27, J 28, J 29, J 30, J 31, J 32, J 33, J 34, J 35, J 36, J 37, J 38, J 39, J 40, J 41, J 42, J 43, J 44, J 45, J 46, J 47, J 48, J 49, J 50, J 51, J 52, J 53, J 54, J 55, J 56, J 57, J 58, J 59, J 60, J 61, J 62, J 63, J 64, J 65, J 66, J 67, J 68, J 69, J 70, J 71, J 72, J 73, J 74, J 75, J 76, J 77, J 78, J 79, J 80, J 81, J 82, J 83, J 84, J 85, J 86, J 87, J 88, J 89, J 90, J 91, J 92, J 93, J 94, J 95, J 96, J 97, J 98, J 99, J 100, J 101, J 102, J 103, J 104, J 105, J 106, J 107, J 108, J 109, J 110, J 111, J 112, J 113, J 114, J 115, J 116, J 117, J 118, J 119, J 120, J 121, J 122, J 123, J 124, J 125, J 126, J 127, J 128, J 129]) (fun m s H1 => m = k - s ∧ s ≤ k ∧ m3 + 1 ≤ H1.next ∧ H1.get m1 = some (.row true 27 [Vv eL L, Vv eS S, Vv eE E, Vv eV V]) ∧ H1.get m3 = some (.row true 3 ((atK o k s).map (.int .i64)))) k 0 rfl ⟨rfl, Nat.zero_le _, by simp only [next_push, next_set, next_bump]; omega, by simp (maxSteps := 1000000) (disch := first | exact sd | fail) only [go_sem, Nat.reduceAdd, Nat.reduceSub, Nat.reduceLeDiff, ↓reduceIte, decide_eq_true_eq, if_true, if_false, Bool.false_eq_true, Int.lt_irrefl, implies_true, true_and, and_true, eq_self, and_self, beq_self_eq_true, aw_drawn (id := 17), aw_drawn' (id := 17)], by unfold atK; rw [List.map_replicate]; simp (maxSteps := 1000000) (disch := first | exact sd | fail) only [go_sem, Nat.reduceAdd, Nat.reduceSub, Nat.reduceLeDiff, ↓reduceIte, decide_eq_true_eq, if_true, if_false, Bool.false_eq_true, Int.lt_irrefl, implies_true, true_and, and_true, eq_self, and_self, beq_self_eq_true, aw_drawn (id := 17), aw_drawn' (id := 17)]⟩ ?_
  rintro m s J H1 ⟨rfl, hsk, nx, g0, g1⟩
  have hal := atK_len (o := o) (n := k) s
  by_cases h4 : (s : Int) < (k : Int)
  · have h5 : (s : Int).toNat = s := rfl
    have m0 := f2 _ (show o.getD s 0 ∈ o by rw [List.getD_eq_getElem?_getD, List.getElem?_eq_getElem (by omega)]; exact List.getElem_mem _)
    obtain ⟨v, hv⟩ : ∃ v : Nat, o.getD s 0 = v := ⟨(o.getD s 0).toNat, by omega⟩
    have hvk : v < k := by omega
    have hno := atK_no (o := o) (n := k) (v := v) (fun x hx => (f2 x hx).1) s (by omega) (fun j hj e => by
      have := nodup_getD f3 (i := j) (j := s) (by omega) (by omega) (by rw [e, hv])
      omega)
    have hsu : atK o k (s + 1) = (atK o k s).set v ((s : Int) + 1) := by rw [atK, hv]; rfl
    have ix := ix_int (b := m3) (n := k) (i := v) hvk
    have gv := gt_int (l := atK o k s) (i := v) (by omega)
    have sv := sp_intU (l := atK o k s) (i := v) (x := (s : Int) + 1) (by omega)
    rw [hno] at gv
    generalize atK o k s = A at *
    have c1 : ¬ (v : Int) < 0 := by omega
    have c2 : ¬ (v : Int) ≥ (k : Int) := by omega
    have v1 : v + 1 ≤ k := hvk
    simp (maxSteps := 30000000) (disch := first | exact sd | fail) only [go_sem, Nat.reduceAdd, Nat.reduceSub, Nat.reduceLeDiff, ↓reduceIte, decide_eq_true_eq, if_true, if_false, Bool.false_eq_true, Int.lt_irrefl, implies_true, true_and, and_true, eq_self, and_self, beq_self_eq_true, aw_drawn (id := 17), aw_drawn' (id := 17), f1, h4, h5, hv, c1, c2, g1, ix, gv, sv, hal, v1, List.length_map, ne_eq, not_true_eq_false]
    exact IJ_intro (k := k - (s + 1)) (by omega) (s + 1) rfl ⟨rfl, by omega, nx, by rw [get_set_ne (by omega)]; exact g0, by rw [get_set_self, hsu]⟩
  have e : s = k := by omega
  subst e
  simp (maxSteps := 30000000) (disch := first | exact sd | fail) only [go_sem, Nat.reduceAdd, Nat.reduceSub, Nat.reduceLeDiff, ↓reduceIte, decide_eq_true_eq, if_true, if_false, Bool.false_eq_true, Int.lt_irrefl, implies_true, true_and, and_true, eq_self, and_self, beq_self_eq_true, aw_drawn (id := 17), aw_drawn' (id := 17), f1, h4, g0]
  refine PC.step (q297) fun m4 j4 => ?_
  try simp only [Heap.next_push, Heap.next_set, Heap.next_kill, next_bump, next_E0] at j4
  simp (maxSteps := 30000000) (disch := first | exact sd | fail) only [go_sem, Nat.reduceAdd, Nat.reduceSub, Nat.reduceLeDiff, ↓reduceIte, decide_eq_true_eq, if_true, if_false, Bool.false_eq_true, Int.lt_irrefl, implies_true, true_and, and_true, eq_self, and_self, beq_self_eq_true, aw_drawn (id := 17), aw_drawn' (id := 17)]
  have g1 : (H1.bump m4).get m3 = _ := g1
  have g0 : (H1.bump m4).get m1 = _ := g0
  have nx : m3 + 1 ≤ (H1.bump m4).next := by rw [next_bump]; omega
  generalize H1.bump m4 = H2 at *
  generalize atK o s s = A at *
  refine aw_loopJ (σ := Nat) (fun i J => [J 0, J 1, J 2, J 3, .bool false, .pointer (some ⟨m1, 0, none⟩), Vv eN o, Vv eB hd, J 8, .slice (some ⟨m3, 0, none⟩) s s, J 10, Vv eB cm, .int .i64 i, J 13, J 14, J 15, J 16, J 17, J 18, J 19, J 20, J 21, J 22, J 23, J 24, J 25, J 26, J 27, J 28, J 29, J 30, J 31, J 32, J 33, J 34, J 35, J 36, J 37, J 38, J 39, J 40, J 41, J 42, J 43, J 44, J 45, J 46, J 47, J 48, J 49, J 50, J 51, J 52, J 53, J 54, J 55, J 56, J 57, J 58, J 59, J 60, J 61, J 62, J 63, J 64, J 65, J 66, J 67, J 68, J 69, J 70, J 71, J 72, J 73, J 74, J 75, J 76, J 77, J 78, J 79, J 80, J 81, J 82, J 83, J 84, J 85, J 86, J 87, J 88, J 89, J 90, J 91, J 92, J 93, J 94, J 95, J 96, J 97, J 98, J 99, J 100, J 101, J 102, J 103, J 104, J 105, J 106, J 107, J 108, J 109, J 110, J 111, J 112, J 113, J 114, J 115, J 116, J 117, J 118, J 119, J 120, J 121, J 122, J 123, J 124, J 125, J 126, J 127, J 128, J 129]) (fun m i H1 => m = E.length - i ∧ i ≤ E.length ∧ m3 + 1 ≤ H1.next ∧ H1.get m1 = some (.row true 27 [Vv eL L, Vv eS S, Vv eE E, Vv eV V]) ∧ H1.get m3 = some (.row true 3 (A.map (.int .i64)))) E.length 0 rfl ⟨rfl, Nat.zero_le _, nx, g0, g1⟩ ?_
  clear nx g0 g1
  rintro m i J H3 ⟨rfl, hi, nx, g0, g1⟩
  by_cases h6 : (i : Int) < E.length
  · have h7 : (i : Int).toNat = i := rfl
    have he := wE (j := i) (by omega)
    have hb := f6 i (by omega)
    generalize hee : E.getD i eE.d = a at *
    obtain ⟨f, hf⟩ : ∃ f : Nat, a.f = f := ⟨a.f.toNat, by omega⟩
    obtain ⟨u, hu⟩ : ∃ u : Nat, a.t = u := ⟨a.t.toNat, by omega⟩
    rw [hf, hu, Int.toNat_natCast, Int.toNat_natCast] at hb
    have hfk : f < s := by omega
    have huk : u < s := by omega
    have hf7 : (f : Int).toNat = f := rfl
    have hu7 : (u : Int).toNat = u := rfl
    have cf : (f : Int) < (s : Int) := by omega
    have cu : (u : Int) < (s : Int) := by omega
    have ixf := ix_int (b := m3) (n := s) (i := f) hfk
    have ixu := ix_int (b := m3) (n := s) (i := u) huk
    have gf := gt_int (l := A) (i := f) (by omega)
    have gu := gt_int (l := A) (i := u) (by omega)
    have nx2 : m3 + 1 ≤ (H3.push (.row true 46 [])).next := by simp only [next_push]; omega
    cases hcf : cm.getD f false with
    | false =>
      simp (maxSteps := 30000000) (disch := first | exact sd | fail) only [go_sem, Nat.reduceAdd, Nat.reduceSub, Nat.reduceLeDiff, ↓reduceIte, decide_eq_true_eq, if_true, if_false, Bool.false_eq_true, Int.lt_irrefl, implies_true, true_and, and_true, eq_self, and_self, beq_self_eq_true, aw_drawn (id := 17), aw_drawn' (id := 17), g0, g1, h6, h7, hee, hf, hu, f7, f5, cf, hf7, hcf]
      exact IJ_intro (k := E.length - (i + 1)) (by omega) (i + 1) rfl ⟨rfl, by omega, by simp only [next_push, next_set]; omega, by simp (maxSteps := 1000000) (disch := first | exact sd | fail) only [go_sem, Nat.reduceAdd, Nat.reduceSub, Nat.reduceLeDiff, ↓reduceIte, decide_eq_true_eq, if_true, if_false, Bool.false_eq_true, Int.lt_irrefl, implies_true, true_and, and_true, eq_self, and_self, beq_self_eq_true, aw_drawn (id := 17), aw_drawn' (id := 17), g0], by simp (maxSteps := 1000000) (disch := first | exact sd | fail) only [go_sem, Nat.reduceAdd, Nat.reduceSub, Nat.reduceLeDiff, ↓reduceIte, decide_eq_true_eq, if_true, if_false, Bool.false_eq_true, Int.lt_irrefl, implies_true, true_and, and_true, eq_self, and_self, beq_self_eq_true, aw_drawn (id := 17), aw_drawn' (id := 17), g1]⟩
    | true =>
      have hb := hb hcf
      generalize A.getD f 0 = af at *
      generalize A.getD u 0 = au at *
      by_cases hle : au ≤ af
      · cases hh : hd.getD u false with
        | false => exact absurd (hb hh) (by omega)
        | true =>
          simp (maxSteps := 30000000) (disch := first | exact sd | fail) only [go_sem, Nat.reduceAdd, Nat.reduceSub, Nat.reduceLeDiff, ↓reduceIte, decide_eq_true_eq, if_true, if_false, Bool.false_eq_true, Int.lt_irrefl, implies_true, true_and, and_true, eq_self, and_self, beq_self_eq_true, aw_drawn (id := 17), aw_drawn' (id := 17), g0, g1, h6, h7, hee, hf, hu, f7, f5, cf, cu, hf7, hu7, hcf, ixf, ixu, gf, gu, hle, hh, Bool.not_true]
          exact IJ_intro (k := E.length - (i + 1)) (by omega) (i + 1) rfl ⟨rfl, by omega, by simp only [next_push, next_set]; omega, by simp (maxSteps := 1000000) (disch := first | exact sd | fail) only [go_sem, Nat.reduceAdd, Nat.reduceSub, Nat.reduceLeDiff, ↓reduceIte, decide_eq_true_eq, if_true, if_false, Bool.false_eq_true, Int.lt_irrefl, implies_true, true_and, and_true, eq_self, and_self, beq_self_eq_true, aw_drawn (id := 17), aw_drawn' (id := 17), g0], by simp (maxSteps := 1000000) (disch := first | exact sd | fail) only [go_sem, Nat.reduceAdd, Nat.reduceSub, Nat.reduceLeDiff, ↓reduceIte, decide_eq_true_eq, if_true, if_false, Bool.false_eq_true, Int.lt_irrefl, implies_true, true_and, and_true, eq_self, and_self, beq_self_eq_true, aw_drawn (id := 17), aw_drawn' (id := 17), g1]⟩
      · simp (maxSteps := 30000000) (disch := first | exact sd | fail) only [go_sem, Nat.reduceAdd, Nat.reduceSub, Nat.reduceLeDiff, ↓reduceIte, decide_eq_true_eq, if_true, if_false, Bool.false_eq_true, Int.lt_irrefl, implies_true, true_and, and_true, eq_self, and_self, beq_self_eq_true, aw_drawn (id := 17), aw_drawn' (id := 17), g0, g1, h6, h7, hee, hf, hu, f7, f5, cf, cu, hf7, hu7, hcf, ixf, ixu, gf, gu, hle]
        exact IJ_intro (k := E.length - (i + 1)) (by omega) (i + 1) rfl ⟨rfl, by omega, by simp only [next_push, next_set]; omega, by simp (maxSteps := 1000000) (disch := first | exact sd | fail) only [go_sem, Nat.reduceAdd, Nat.reduceSub, Nat.reduceLeDiff, ↓reduceIte, decide_eq_true_eq, if_true, if_false, Bool.false_eq_true, Int.lt_irrefl, implies_true, true_and, and_true, eq_self, and_self, beq_self_eq_true, aw_drawn (id := 17), aw_drawn' (id := 17), g0], by simp (maxSteps := 1000000) (disch := first | exact sd | fail) only [go_sem, Nat.reduceAdd, Nat.reduceSub, Nat.reduceLeDiff, ↓reduceIte, decide_eq_true_eq, if_true, if_false, Bool.false_eq_true, Int.lt_irrefl, implies_true, true_and, and_true, eq_self, and_self, beq_self_eq_true, aw_drawn (id := 17), aw_drawn' (id := 17), g1]⟩
  have e : i = E.length := by omega
  subst e
  simp (maxSteps := 30000000) (disch := first | exact sd | fail) only [go_sem, Nat.reduceAdd, Nat.reduceSub, Nat.reduceLeDiff, ↓reduceIte, decide_eq_true_eq, if_true, if_false, Bool.false_eq_true, Int.lt_irrefl, implies_true, true_and, and_true, eq_self, and_self, beq_self_eq_true, aw_drawn (id := 17), aw_drawn' (id := 17), g0, h6]
  refine PC.step (p294) fun m5 j5 => ?_
  try simp only [Heap.next_push, Heap.next_set, Heap.next_kill, next_bump, next_E0] at j5
  simp (maxSteps := 30000000) (disch := first | exact sd | fail) only [go_sem, Nat.reduceAdd, Nat.reduceSub, Nat.reduceLeDiff, ↓reduceIte, decide_eq_true_eq, if_true, if_false, Bool.false_eq_true, Int.lt_irrefl, implies_true, true_and, and_true, eq_self, and_self, beq_self_eq_true, aw_drawn (id := 17), aw_drawn' (id := 17)]
  exact .rfl
theorem lawOrderBack {H : Heap} {xs : List Value} (hf : ∀ b, H.next ≤ b → H.get b = none) (hg : GoodArgs Tryz.prog H 8 [5, 40] xs) : ACalls Tryz.prog 5 xs H fun v _ => v = .bool true := by
  obtain ⟨ps, h1, h2, h3⟩ := args_frz hf (by intro t ht; simp only [List.mem_cons, List.not_mem_nil, or_false] at ht; rcases ht with rfl | rfl <;> kernel_rfl) hg
  obtain ⟨p0, ps0, rfl, a0, r0⟩ := h3.cons
  obtain ⟨n, rfl, hn⟩ := a0.int Tryz.underlying5
  obtain ⟨p1, ps1, rfl, a1, r1⟩ := r0.cons
  obtain ⟨ns, rfl, hl, hs⟩ := a1.ints8U
  obtain rfl := r1.nil
  exact (q290 (wf_u8 hn) hs hl).law h1
end Go.Abs

/- OrderCircles, on values. -/
set_option linter.unusedVariables false
set_option linter.unusedSimpArgs false
namespace Go.Abs
open Go Go.Proofs
set_option maxRecDepth 100000
set_option maxHeartbeats 40000000
theorem q291 {n : Int} {ns : List Int} (hn : 0 ≤ n ∧ n < 256) (hs : ∀ x ∈ ns, 0 ≤ x ∧ x < 256) (hl : ns.length ≤ maxLen) : PC Tryz.prog 6 [.int .u8 n, Vv eY ns] (.bool true) := by
  have hM : maxLen = 9223372036854775807 := rfl
  have hY : Pu (Vv eY ns) := pu_flat1 fun _ => .cons (.ground rfl) .nil
  refine PC.of (.cons (.ground rfl) (.cons hY .nil)) (.ground rfl) fun N hN => ?_
  have q141 := p141 hn hs (by omega)
  obtain ⟨ok1, _, lm1, sm1, _, _, hE40⟩ := edg_okU (ns := ns) hn.1
  have q2 := p205 lm1 sm1
  obtain ⟨w1, w2, w3⟩ := okW_n ok1
  have wE := @okW_E _ ok1
  have hin := inE_ok ok1
  have q297 := p297 w1 w2 w3 fun j hj => wE hj
  have f5 := (ordS_OI ok1).head
  have f7 := comeK_len (E := (edgW n ns).edges) (n := (edgW n ns).locs.length) (k := (edgW n ns).locs.length)
  have q298a := fun fr (hfr : fr < (edgW n ns).locs.length) => p298 (bt := []) w1 w2 w3 hfr (.inl rfl) fun j hj => wE hj
  have q298b := fun fr (hfr : fr < (edgW n ns).locs.length) => p298 (bt := (ordS (edgW n ns).edges (edgW n ns).locs.length).head) w1 w2 w3 hfr (.inr f5) fun j hj => wE hj
  have k1 : ∀ v, (ordS (edgW n ns).edges (edgW n ns).locs.length).head.getD v false = true → (comeK (edgW n ns).edges (edgW n ns).locs.length (edgW n ns).locs.length).getD v false = true := fun v hv => head_come (by omega) hin hv
  have k2 : ∀ v, (ordS (edgW n ns).edges (edgW n ns).locs.length).head.getD v false = true → (roundK (edgW n ns).edges [] v (edgW n ns).locs.length ((edgW n ns).locs.length + 1)).getD v false = true := fun v hv => head_round (by omega) hin hv
  have k3 : ∀ v, (comeK (edgW n ns).edges (edgW n ns).locs.length (edgW n ns).locs.length).getD v false = true → (ordS (edgW n ns).edges (edgW n ns).locs.length).head.getD v false = false → (roundK (edgW n ns).edges (ordS (edgW n ns).edges (edgW n ns).locs.length).head v (edgW n ns).locs.length ((edgW n ns).locs.length + 1)).getD v false = false := fun v hc hv => no_round (by omega) hin hc hv
  unfold ordR at q2
  rw [ok1, if_pos rfl] at q2
  generalize ordO (ordS (edgW n ns).edges (edgW n ns).locs.length) (edgW n ns).locs.length = o at *
  generalize (ordS (edgW n ns).edges (edgW n ns).locs.length).head = hd at *
  generalize comeK (edgW n ns).edges (edgW n ns).locs.length (edgW n ns).locs.length = cm at *
  clear ok1 lm1 sm1 hin wE
  generalize edgW n ns = l at *
  obtain ⟨L, S, E, V⟩ := l
  unfold Wv at *
  dsimp only at *
  generalize hLn : L.length = k at *
  refine ACalls.of_code T.hm (n := 75) Tryz.func6 rfl rfl rfl rfl ?_; simp only [List.replicate_succ, List.replicate_zero, List.cons_append, List.nil_append]
  simp (maxSteps := 1000000) (disch := first | exact sd | fail) only [go_sem, Nat.reduceAdd, Nat.reduceSub, Nat.reduceLeDiff, ↓reduceIte, decide_eq_true_eq, if_true, if_false, Bool.false_eq_true, Int.lt_irrefl, implies_true, true_and, and_true, eq_self, and_self, beq_self_eq_true]
  refine PC.step (q141) fun m1 j1 => ?_
  try simp only [Heap.next_push, Heap.next_set, Heap.next_kill, next_bump, next_E0] at j1
  simp (maxSteps := 30000000) (disch := first | exact sd | fail) only [go_sem, Nat.reduceAdd, Nat.reduceSub, Nat.reduceLeDiff, ↓reduceIte, decide_eq_true_eq, if_true, if_false, Bool.false_eq_true, Int.lt_irrefl, implies_true, true_and, and_true, eq_self, and_self, beq_self_eq_true]
  refine PC.step (q2) fun m2 j2 => ?_
  try simp only [Heap.next_push, Heap.next_set, Heap.next_kill, next_bump, next_E0] at j2
  simp (maxSteps := 30000000) (disch := first | exact sd | fail) only [go_sem, Nat.reduceAdd, Nat.reduceSub, Nat.reduceLeDiff, ↓reduceIte, decide_eq_true_eq, if_true, if_false, Bool.false_eq_true, Int.lt_irrefl, implies_true, true_and, and_true, eq_self, and_self, beq_self_eq_true]
  refine PC.step (p45 (x := 0)) fun m3 j3 => ?_
  try simp only [Heap.next_push, Heap.next_set, Heap.next_kill, next_bump, next_E0] at j3
  simp (maxSteps := 30000000) (disch := first | exact sd | fail) only [go_sem, Nat.reduceAdd, Nat.reduceSub, Nat.reduceLeDiff, ↓reduceIte, decide_eq_true_eq, if_true, if_false, Bool.false_eq_true, Int.lt_irrefl, implies_true, true_and, and_true, eq_self, and_self, beq_self_eq_true, hLn, f5, ne_eq, not_true_eq_false]
  refine PC.step (q297) fun m4 j4 => ?_
  try simp only [Heap.next_push, Heap.next_set, Heap.next_kill, next_bump, next_E0] at j4
  simp (maxSteps := 30000000) (disch := first | exact sd | fail) only [go_sem, Nat.reduceAdd, Nat.reduceSub, Nat.reduceLeDiff, ↓reduceIte, decide_eq_true_eq, if_true, if_false, Bool.false_eq_true, Int.lt_irrefl, implies_true, true_and, and_true, eq_self, and_self, beq_self_eq_true]
  generalize hG : Heap.bump _ m4 = G
  have g0 : G.get m1 = some (.row true 27 [Vv eL L, Vv eS S, Vv eE E, Vv eV V]) := by rw [← hG]; simp (maxSteps := 1000000) (disch := first | exact sd | fail) only [go_sem, Nat.reduceAdd, Nat.reduceSub, Nat.reduceLeDiff, ↓reduceIte, decide_eq_true_eq, if_true, if_false, Bool.false_eq_true, Int.lt_irrefl, implies_true, true_and, and_true, eq_self, and_self, beq_self_eq_true]
  have nx : m1 + 1 ≤ G.next := by rw [← hG, next_bump]; omega
  clear hG
  refine aw_loopJ (σ := Nat) (fun i J => [J 0, J 1, J 2, J 3, .bool false, .pointer (some ⟨m1, 0, none⟩), J 6, Vv eB hd, J 8, Vv eB cm, .int .i64 i, J 11, J 12, J 13, J 14, J 15, J 16, J 17, J 18, J 19, J 20, J 21, J 22, J 23, J 24, J 25, J 26, J 27, J 28, J 29, J 30, J 31, J 32, J 33, J 34, J 35, J 36, J 37, J 38, J 39, J 40, J 41, J 42, J 43, J 44, J 45, J 46, J 47, J 48, J 49, J 50, J 51, J 52, J 53, J 54, J 55, J 56, J 57, J 58, J 59, J 60, J 61, J 62, J 63, J 64, J 65, J 66, J 67, J 68, J 69, J 70, J 71, J 72, J 73, J 74, J 75, J 76]) (fun m i H1 => m = k - i ∧ i ≤ k ∧ m1 + 1 ≤ H1.next ∧ H1.get m1 = some (.row true 27 [Vv eL L, Vv eS S, Vv eE E, Vv eV V])) k 0 rfl ⟨rfl, Nat.zero_le _, nx, g0⟩ ?_
  clear nx g0
  rintro m i J H3 ⟨rfl, hi, nx, g0⟩
  by_cases h6 : (i : Int) < (k : Int)
  · have h7 : (i : Int).toNat = i := rfl
    have hik : i < k := by omega
    cases hh : hd.getD i false with
    | true =>
      have hc := k1 i hh
      have hr := k2 i hh
      have q3 := q298a i hik
      rw [hr] at q3
      simp (maxSteps := 30000000) (disch := first | exact sd | fail) only [go_sem, Nat.reduceAdd, Nat.reduceSub, Nat.reduceLeDiff, ↓reduceIte, decide_eq_true_eq, if_true, if_false, Bool.false_eq_true, Int.lt_irrefl, implies_true, true_and, and_true, eq_self, and_self, beq_self_eq_true, g0, hLn, h6, h7, f5, f7, hh, hc, Bool.not_true]
      refine ACalls.nz (ps := [.agg ⟨[Vv eL L, Vv eS S, Vv eE E, Vv eV V]⟩, .int .i64 i, Vv eB []]) (.cons .rfl (.cons .rfl (.cons .vnil .nil))) ?_
      refine PC.step (q3) fun m5 j5 => ?_
      try simp only [Heap.next_push, Heap.next_set, Heap.next_kill, next_bump, next_E0] at j5
      simp (maxSteps := 30000000) (disch := first | exact sd | fail) only [go_sem, Nat.reduceAdd, Nat.reduceSub, Nat.reduceLeDiff, ↓reduceIte, decide_eq_true_eq, if_true, if_false, Bool.false_eq_true, Int.lt_irrefl, implies_true, true_and, and_true, eq_self, and_self, beq_self_eq_true, g0, hLn, h6, h7, f5, f7, hh, hc, Bool.not_true]
      exact IJ_intro (k := k - (i + 1)) (by omega) (i + 1) rfl ⟨rfl, by omega, by simp only [next_bump]; omega, by simp (maxSteps := 1000000) (disch := first | exact sd | fail) only [go_sem, Nat.reduceAdd, Nat.reduceSub, Nat.reduceLeDiff, ↓reduceIte, decide_eq_true_eq, if_true, if_false, Bool.false_eq_true, Int.lt_irrefl, implies_true, true_and, and_true, eq_self, and_self, beq_self_eq_true, g0]⟩
    | false =>
      cases hc : cm.getD i false with
      | true =>
        have hr := k3 i hc hh
        have q3 := q298b i hik
        rw [hr] at q3
        simp (maxSteps := 30000000) (disch := first | exact sd | fail) only [go_sem, Nat.reduceAdd, Nat.reduceSub, Nat.reduceLeDiff, ↓reduceIte, decide_eq_true_eq, if_true, if_false, Bool.false_eq_true, Int.lt_irrefl, implies_true, true_and, and_true, eq_self, and_self, beq_self_eq_true, g0, hLn, h6, h7, f5, f7, hh, hc, Bool.not_true, Bool.not_false]
        refine PC.step (q3) fun m5 j5 => ?_
        try simp only [Heap.next_push, Heap.next_set, Heap.next_kill, next_bump, next_E0] at j5
        simp (maxSteps := 30000000) (disch := first | exact sd | fail) only [go_sem, Nat.reduceAdd, Nat.reduceSub, Nat.reduceLeDiff, ↓reduceIte, decide_eq_true_eq, if_true, if_false, Bool.false_eq_true, Int.lt_irrefl, implies_true, true_and, and_true, eq_self, and_self, beq_self_eq_true, g0, hLn, h6, h7, f5, f7, hh, hc, Bool.not_true, Bool.not_false]
        exact IJ_intro (k := k - (i + 1)) (by omega) (i + 1) rfl ⟨rfl, by omega, by simp only [next_bump]; omega, by simp (maxSteps := 1000000) (disch := first | exact sd | fail) only [go_sem, Nat.reduceAdd, Nat.reduceSub, Nat.reduceLeDiff, ↓reduceIte, decide_eq_true_eq, if_true, if_false, Bool.false_eq_true, Int.lt_irrefl, implies_true, true_and, and_true, eq_self, and_self, beq_self_eq_true, g0]⟩
      | false =>
        simp (maxSteps := 30000000) (disch := first | exact sd | fail) only [go_sem, Nat.reduceAdd, Nat.reduceSub, Nat.reduceLeDiff, ↓reduceIte, decide_eq_true_eq, if_true, if_false, Bool.false_eq_true, Int.lt_irrefl, implies_true, true_and, and_true, eq_self, and_self, beq_self_eq_true, g0, hLn, h6, h7, f5, f7, hh, hc, Bool.not_true, Bool.not_false]
        exact IJ_intro (k := k - (i + 1)) (by omega) (i + 1) rfl ⟨rfl, by omega, nx, g0⟩
  have e : i = k := by omega
  subst e
  simp (maxSteps := 30000000) (disch := first | exact sd | fail) only [go_sem, Nat.reduceAdd, Nat.reduceSub, Nat.reduceLeDiff, ↓reduceIte, decide_eq_true_eq, if_true, if_false, Bool.false_eq_true, Int.lt_irrefl, implies_true, true_and, and_true, eq_self, and_self, beq_self_eq_true, g0, hLn, h6]
  refine PC.step (p294) fun m6 j6 => ?_
  try simp only [Heap.next_push, Heap.next_set, Heap.next_kill, next_bump, next_E0] at j6
  simp (maxSteps := 30000000) (disch := first | exact sd | fail) only [go_sem, Nat.reduceAdd, Nat.reduceSub, Nat.reduceLeDiff, ↓reduceIte, decide_eq_true_eq, if_true, if_false, Bool.false_eq_true, Int.lt_irrefl, implies_true, true_and, and_true, eq_self, and_self, beq_self_eq_true]
  exact .rfl
theorem lawOrderCircles {H : Heap} {xs : List Value} (hf : ∀ b, H.next ≤ b → H.get b = none) (hg : GoodArgs Tryz.prog H 8 [5, 40] xs) : ACalls Tryz.prog 6 xs H fun v _ => v = .bool true := by
  obtain ⟨ps, h1, h2, h3⟩ := args_frz hf (by intro t ht; simp only [List.mem_cons, List.not_mem_nil, or_false] at ht; rcases ht with rfl | rfl <;> kernel_rfl) hg
  obtain ⟨p0, ps0, rfl, a0, r0⟩ := h3.cons
  obtain ⟨n, rfl, hn⟩ := a0.int Tryz.underlying5
  obtain ⟨p1, ps1, rfl, a1, r1⟩ := r0.cons
  obtain ⟨ns, rfl, hl, hs⟩ := a1.ints8U
  obtain rfl := r1.nil
  exact (q291 (wf_u8 hn) hs hl).law h1
end Go.Abs

/- OrderRows, on values. -/
set_option linter.unusedVariables false
set_option linter.unusedSimpArgs false
namespace Go.Abs
open Go Go.Proofs
set_option maxRecDepth 100000
set_option maxHeartbeats 40000000
theorem gd_range {k i : Nat} (h : i < k) : ((List.range k).map (fun d : Nat => (d : Int))).getD i 0 = (i : Int) := by
  rw [List.getD_eq_getElem?_getD, List.getElem?_eq_getElem (by simpa using h)]
  simp
theorem gd_heads {k t i : Nat} (ht : t < k) (h : i < k) : ((List.replicate k false).set t true).getD i false = decide (i = t) := by
  by_cases e : t = i
  · subst e
    rw [getD_setS (by simpa using ht), decide_eq_true rfl]
  · rw [getD_setN e, rep_false, decide_eq_false (by omega)]
theorem q292 {n to : Int} (hn : 0 ≤ n ∧ n < 256) (ht : 0 ≤ to ∧ to < 256) : PC Tryz.prog 7 [.int .u8 n, .int .u8 to] (.bool true) := by
  have h12 := Int.tmod_nonneg 30 hn.1
  have h13 := Int.tmod_lt_of_pos n (show (0 : Int) < 30 by decide)
  refine PC.of (.cons (.ground rfl) (.cons (.ground rfl) .nil)) (.ground rfl) fun N hN => ?_
  obtain ⟨kk, hkk⟩ : ∃ kk : Nat, 1 + n.tmod 30 = (kk : Int) := ⟨(1 + n.tmod 30).toNat, by omega⟩
  have hk1 : 1 ≤ kk ∧ kk ≤ 30 := by omega
  have et := tmod_nat (k := kk) ht.1
  have htk : to.toNat % kk < kk := Nat.mod_lt _ (by omega)
  generalize to.toNat % kk = t at *
  obtain ⟨ok1, lm1, sm1⟩ := prW_ok (kk := kk) (P := rowP (kk - 1)) (by omega) (by rw [rowP_len]; omega) (rowP_in (by omega))
  obtain ⟨ok2, lm2, sm2⟩ := prW_ok (kk := kk) (P := rowP (kk - 1) ++ [(kk - 1, t)]) (by omega) (by rw [List.length_append, rowP_len, List.length_singleton]; omega) (fun p hp => by
    rcases List.mem_append.1 hp with hp | hp
    · exact rowP_in (by omega) p hp
    · rw [List.mem_singleton.1 hp]; dsimp only; omega)
  have q1 := p205n lm1 sm1
  have q2 := p205n lm2 sm2
  obtain ⟨r1, r2⟩ := row_one (k := kk) (by omega)
  obtain ⟨r3, r4⟩ := row_two (k := kk) (by omega) htk
  have ll : ∀ P, (prW kk P).locs.length = kk := fun P => by unfold prW; dsimp only; rw [List.length_replicate]
  unfold ordR at q1 q2
  rw [ok1, if_pos rfl, ll, r1, r2] at q1
  rw [ok2, if_pos rfl, ll, r3, r4] at q2
  have g1 := fun {i : Nat} => gd_range (k := kk) (i := i)
  have g2 := fun {i : Nat} => gd_heads (k := kk) (t := t) (i := i) htk
  have g3 : ∀ i, (List.replicate kk false).getD i false = false := fun i => rep_false
  have l1 : ((List.range kk).map (fun d : Nat => (d : Int))).length = kk := by simp
  have l2 : ((List.replicate kk false).set t true).length = kk := by simp
  have l3 : (List.replicate kk false).length = kk := by simp
  generalize (List.range kk).map (fun d : Nat => (d : Int)) = o at *
  generalize (List.replicate kk false).set t true = hd2 at *
  generalize List.replicate kk false = hd1 at *
  clear ok1 ok2 lm1 lm2 sm1 sm2 r1 r2 r3 r4 ll
  unfold prW at q1 q2
  refine ACalls.of_code T.hm (n := 109) Tryz.func7 rfl rfl rfl rfl ?_; simp only [List.replicate_succ, List.replicate_zero, List.cons_append, List.nil_append]
  simp (maxSteps := 1000000) (disch := first | exact sd | fail) only [go_sem, Nat.reduceAdd, Nat.reduceSub, Nat.reduceLeDiff, ↓reduceIte, decide_eq_true_eq, if_true, if_false, Bool.false_eq_true, Int.lt_irrefl, implies_true, true_and, and_true, eq_self, and_self, beq_self_eq_true, hkk, aMk_int, Int.toNat_natCast]
  refine aw_loopJ (σ := Nat × Value) (fun s J => [J 0, .int .u8 to, J 2, J 3, .bool false, .int .i64 kk, .pointer (some ⟨N + 1, 0, none⟩), .int .i64 s.1, J 8, J 9, J 10, J 11, J 12, J 13, J 14, J 15, J 16, J 17, J 18, J 19, J 20, J 21, J 22, J 23, J 24, J 25, J 26, J 27, J 28, J 29, J 30, J 31, J 32, J 33, J 34, J 35, J 36, J 37, J 38, J 39, J 40, J 41, J 42, J 43, J 44, J 45, J 46, J 47, J 48, J 49, J 50, J 51, J 52, J 53, J 54, J 55, J 56, J 57, J 58, J 59, J 60, J 61, J 62, J 63, J 64, J 65, J 66, J 67, J 68, J 69, J 70, J 71, J 72, J 73, J 74, J 75, J 76, J 77, J 78, J 79, J 80, J 81, J 82, J 83, J 84, J 85, J 86, J 87, J 88, J 89, J 90, J 91, J 92, J 93, J 94, J 95, J 96, J 97, J 98, J 99, J 100, J 101, J 102, J 103, J 104, J 105, J 106, J 107, J 108, J 109, J 110]) (fun m s H1 => m = kk - 1 - s.1 ∧ s.1 ≤ kk - 1 ∧ N + 2 ≤ H1.next ∧ H1.get N = some (.row true 163 (repC kk [.slice none 0 0, .int .i64 0])) ∧ H1.get (N + 1) = some (.row true 27 [.slice (some ⟨N, 0, none⟩) kk kk, .slice none 0 0, s.2, .slice none 0 0]) ∧ VO Tryz.prog eEo 46 (E0 (N + 2)) H1 s.2 (rowP s.1)) (kk - 1) (0, .slice none 0 0) rfl ⟨rfl, Nat.zero_le _, by simp only [next_push, next_set, next_E0]; omega, by simp (maxSteps := 1000000) (disch := first | exact sd | fail) only [go_sem, Nat.reduceAdd, Nat.reduceSub, Nat.reduceLeDiff, ↓reduceIte, decide_eq_true_eq, if_true, if_false, Bool.false_eq_true, Int.lt_irrefl, implies_true, true_and, and_true, eq_self, and_self, beq_self_eq_true], by simp (maxSteps := 1000000) (disch := first | exact sd | fail) only [go_sem, Nat.reduceAdd, Nat.reduceSub, Nat.reduceLeDiff, ↓reduceIte, decide_eq_true_eq, if_true, if_false, Bool.false_eq_true, Int.lt_irrefl, implies_true, true_and, and_true, eq_self, and_self, beq_self_eq_true], VO.nil⟩ ?_
  rintro m ⟨j, es⟩ J H1 ⟨rfl, hj, nx, g5, g6, ho⟩
  dsimp only at hj g6 ho ⊢
  have ise := ho.isSl
  have nb := ho.blkU
  have nb : sblk es = 0 ∨ N + 2 ≤ sblk es := nb
  by_cases c1 : (j : Int) + 1 < kk
  · have hsu := rowP_succ (m := j)
    obtain ⟨v, H4, ea, oa, fr, nx4, bl⟩ := EO.append1 ho nx j (j + 1) (by rw [rowP_len]; omega)
    have isv := oa.isSl
    have k0 := (fr N (by omega) (by omega)).trans g5
    have k1 := (fr (N + 1) (by omega) (by omega)).trans g6
    rw [← hsu] at oa
    have ej : ((j + 1 : Nat) : Int) = (j : Int) + 1 := rfl
    rw [ej] at ea
    simp (maxSteps := 30000000) (disch := first | exact sd | fail) only [go_sem, Nat.reduceAdd, Nat.reduceSub, Nat.reduceLeDiff, ↓reduceIte, decide_eq_true_eq, if_true, if_false, Bool.false_eq_true, Int.lt_irrefl, implies_true, true_and, and_true, eq_self, and_self, beq_self_eq_true, c1, g6, k1, ea]
    exact IJ_intro (k := kk - 1 - (j + 1)) (by omega) (j + 1, v) rfl ⟨rfl, by dsimp only; omega, by simp only [next_set]; omega, by rw [get_set_ne (by omega)]; exact k0, by rw [get_set_self], oa.setFU (by show N + 1 < N + 2; omega) _⟩
  have e : j = kk - 1 := by omega
  subst e
  have hW1 : FzRel Tryz.prog H1 (Wv ⟨List.replicate kk ⟨[], 0⟩, [], (rowP (kk - 1)).map mkE, []⟩) (.agg ⟨[.slice (some ⟨N, 0, none⟩) kk kk, .slice none 0 0, es, .slice none 0 0]⟩) := fz_W g5 (by omega) (by omega) ho
  simp (maxSteps := 30000000) (disch := first | exact sd | fail) only [go_sem, Nat.reduceAdd, Nat.reduceSub, Nat.reduceLeDiff, ↓reduceIte, decide_eq_true_eq, if_true, if_false, Bool.false_eq_true, Int.lt_irrefl, implies_true, true_and, and_true, eq_self, and_self, beq_self_eq_true, c1, g6]
  refine (PN.look q1 (.cons hW1 .nil)).mono ?_
  rintro _ _ ⟨rfl, m1, j1, rfl⟩
  have ek : (kk : Int) - 1 = ((kk - 1 : Nat) : Int) := by omega
  have g5 : (H1.bump m1).get N = _ := g5
  have g6 : (H1.bump m1).get (N + 1) = _ := g6
  have ho := ho.bump j1
  have nx : N + 2 ≤ (H1.bump m1).next := by rw [next_bump]; omega
  obtain ⟨v, H4, ea, oa, fr, nx4, bl⟩ := EO.append1 ho nx (kk - 1) t (by rw [rowP_len]; omega)
  have isv := oa.isSl
  have k0 := (fr N (by omega) (by omega)).trans g5
  have k1 := (fr (N + 1) (by omega) (by omega)).trans g6
  generalize hH2 : H1.bump m1 = H2 at *
  simp (maxSteps := 30000000) (disch := first | exact sd | fail) only [go_sem, Nat.reduceAdd, Nat.reduceSub, Nat.reduceLeDiff, ↓reduceIte, decide_eq_true_eq, if_true, if_false, Bool.false_eq_true, Int.lt_irrefl, implies_true, true_and, and_true, eq_self, and_self, beq_self_eq_true, hH2, g6, ek, et, k1, ea]
  have oa := oa.setFU (b := N + 1) (by show N + 1 < N + 2; omega) (.row true 27 [.slice (some ⟨N, 0, none⟩) kk kk, .slice none 0 0, v, .slice none 0 0])
  have hW2 : FzRel Tryz.prog (H4.set (N + 1) (.row true 27 [.slice (some ⟨N, 0, none⟩) kk kk, .slice none 0 0, v, .slice none 0 0])) (Wv ⟨List.replicate kk ⟨[], 0⟩, [], (rowP (kk - 1) ++ [(kk - 1, t)]).map mkE, []⟩) (.agg ⟨[.slice (some ⟨N, 0, none⟩) kk kk, .slice none 0 0, v, .slice none 0 0]⟩) := fz_W (by rw [get_set_ne (by omega)]; exact k0) (by simp only [next_set]; omega) (by omega) oa
  refine (PN.look q2 (.cons hW2 .nil)).mono ?_
  rintro _ _ ⟨rfl, m2, j2, rfl⟩
  simp (maxSteps := 30000000) (disch := first | exact sd | fail) only [go_sem, Nat.reduceAdd, Nat.reduceSub, Nat.reduceLeDiff, ↓reduceIte, decide_eq_true_eq, if_true, if_false, Bool.false_eq_true, Int.lt_irrefl, implies_true, true_and, and_true, eq_self, and_self, beq_self_eq_true]
  refine PC.step (p45 (x := 0)) fun m3 j3 => ?_
  try simp only [Heap.next_push, Heap.next_set, Heap.next_kill, next_bump, next_E0] at j3
  simp (maxSteps := 30000000) (disch := first | exact sd | fail) only [go_sem, Nat.reduceAdd, Nat.reduceSub, Nat.reduceLeDiff, ↓reduceIte, decide_eq_true_eq, if_true, if_false, Bool.false_eq_true, Int.lt_irrefl, implies_true, true_and, and_true, eq_self, and_self, beq_self_eq_true, bne_self_eq_false, Bool.not_false]
  refine PC.step (p45 (x := 0)) fun m4 j4 => ?_
  try simp only [Heap.next_push, Heap.next_set, Heap.next_kill, next_bump, next_E0] at j4
  simp (maxSteps := 30000000) (disch := first | exact sd | fail) only [go_sem, Nat.reduceAdd, Nat.reduceSub, Nat.reduceLeDiff, ↓reduceIte, decide_eq_true_eq, if_true, if_false, Bool.false_eq_true, Int.lt_irrefl, implies_true, true_and, and_true, eq_self, and_self, beq_self_eq_true, bne_self_eq_false, Bool.not_false]
  refine PC.step (p295 (l := o) (by omega)) fun m5 j5 => ?_
  try simp only [Heap.next_push, Heap.next_set, Heap.next_kill, next_bump, next_E0] at j5
  simp (maxSteps := 30000000) (disch := first | exact sd | fail) only [go_sem, Nat.reduceAdd, Nat.reduceSub, Nat.reduceLeDiff, ↓reduceIte, decide_eq_true_eq, if_true, if_false, Bool.false_eq_true, Int.lt_irrefl, implies_true, true_and, and_true, eq_self, and_self, beq_self_eq_true, l1, ne_eq, not_true_eq_false, Bool.not_true, bne_self_eq_false, Bool.not_false]
  generalize hG : Heap.bump _ m5 = G
  clear hG
  refine aw_loopS (σ := Nat) (fun i J => [J 0, J 1, J 2, J 3, .bool false, .int .i64 kk, J 6, J 7, Vv eN o, Vv eB hd1, J 10, .int .i64 t, J 12, Vv eB hd2, J 14, .int .i64 i, J 16, J 17, J 18, J 19, J 20, J 21, J 22, J 23, J 24, J 25, J 26, J 27, J 28, J 29, J 30, J 31, J 32, J 33, J 34, J 35, J 36, J 37, J 38, J 39, J 40, J 41, J 42, J 43, J 44, J 45, J 46, J 47, J 48, J 49, J 50, J 51, J 52, J 53, J 54, J 55, J 56, J 57, J 58, J 59, J 60, J 61, J 62, J 63, J 64, J 65, J 66, J 67, J 68, J 69, J 70, J 71, J 72, J 73, J 74, J 75, J 76, J 77, J 78, J 79, J 80, J 81, J 82, J 83, J 84, J 85, J 86, J 87, J 88, J 89, J 90, J 91, J 92, J 93, J 94, J 95, J 96, J 97, J 98, J 99, J 100, J 101, J 102, J 103, J 104, J 105, J 106, J 107, J 108, J 109, J 110]) (fun m i => m = kk - i ∧ i ≤ kk) kk 0 rfl ⟨rfl, Nat.zero_le _⟩ ?_
  rintro m i J ⟨rfl, hi⟩
  by_cases h6 : (i : Int) < (kk : Int)
  · have h7 : (i : Int).toNat = i := rfl
    have a1 := g1 (i := i) (by omega)
    have a2 := g2 (i := i) (by omega)
    have a3 := g3 i
    by_cases eq : i = t
    · rw [decide_eq_true eq] at a2
      subst eq
      simp (maxSteps := 30000000) (disch := first | exact sd | fail) only [go_sem, Nat.reduceAdd, Nat.reduceSub, Nat.reduceLeDiff, ↓reduceIte, decide_eq_true_eq, if_true, if_false, Bool.false_eq_true, Int.lt_irrefl, implies_true, true_and, and_true, eq_self, and_self, beq_self_eq_true, h6, h7, l1, l2, l3, a1, a2, a3, ne_eq, not_true_eq_false, bne_self_eq_false, decide_true, decide_false, Bool.not_true, Bool.not_false]
      exact IJ_intro (k := kk - (i + 1)) (by omega) (i + 1) rfl ⟨⟨rfl, by omega⟩, rfl⟩
    · rw [decide_eq_false eq] at a2
      have eit : ¬ (i : Int) = (t : Int) := by omega
      simp (maxSteps := 30000000) (disch := first | exact sd | fail) only [go_sem, Nat.reduceAdd, Nat.reduceSub, Nat.reduceLeDiff, ↓reduceIte, decide_eq_true_eq, if_true, if_false, Bool.false_eq_true, Int.lt_irrefl, implies_true, true_and, and_true, eq_self, and_self, beq_self_eq_true, h6, h7, l1, l2, l3, a1, a2, a3, eit, ne_eq, not_true_eq_false, bne_self_eq_false, decide_true, decide_false, Bool.not_true, Bool.not_false]
      exact IJ_intro (k := kk - (i + 1)) (by omega) (i + 1) rfl ⟨⟨rfl, by omega⟩, rfl⟩
  have e : i = kk := by omega
  subst e
  simp (maxSteps := 30000000) (disch := first | exact sd | fail) only [go_sem, Nat.reduceAdd, Nat.reduceSub, Nat.reduceLeDiff, ↓reduceIte, decide_eq_true_eq, if_true, if_false, Bool.false_eq_true, Int.lt_irrefl, implies_true, true_and, and_true, eq_self, and_self, beq_self_eq_true, h6]
  refine PC.step (p294) fun m6 j6 => ?_
  try simp only [Heap.next_push, Heap.next_set, Heap.next_kill, next_bump, next_E0] at j6
  simp (maxSteps := 30000000) (disch := first | exact sd | fail) only [go_sem, Nat.reduceAdd, Nat.reduceSub, Nat.reduceLeDiff, ↓reduceIte, decide_eq_true_eq, if_true, if_false, Bool.false_eq_true, Int.lt_irrefl, implies_true, true_and, and_true, eq_self, and_self, beq_self_eq_true]
  exact .rfl
theorem lawOrderRows {H : Heap} {xs : List Value} (hf : ∀ b, H.next ≤ b → H.get b = none) (hg : GoodArgs Tryz.prog H 8 [5, 5] xs) : ACalls Tryz.prog 7 xs H fun v _ => v = .bool true := by
  obtain ⟨ps, h1, h2, h3⟩ := args_frz hf (by intro t ht; simp only [List.mem_cons, List.not_mem_nil, or_false] at ht; rcases ht with rfl | rfl <;> kernel_rfl) hg
  obtain ⟨p0, ps0, rfl, a0, r0⟩ := h3.cons
  obtain ⟨n, rfl, hn⟩ := a0.int Tryz.underlying5
  obtain ⟨p1, ps1, rfl, a1, r1⟩ := r0.cons
  obtain ⟨t, rfl, ht⟩ := a1.int Tryz.underlying5
  obtain rfl := r1.nil
  exact (q292 (wf_u8 hn) (wf_u8 ht)).law h1
end Go.Abs

/- OrderTwice, on values. -/
set_option linter.unusedVariables false
set_option linter.unusedSimpArgs false
namespace Go.Abs
open Go Go.Proofs
set_option maxRecDepth 100000
set_option maxHeartbeats 40000000
def pl293_3 : Plan := ⟨[0, 1, 2, 4, 5], [(3, [5], []), (6, [], [7]), (8, [], [])]⟩
theorem Gh.voXT {α : Type} {E : En α} {P : Program} {H0 H : Heap} {el : TypeId} {sl : Value} {l : List α} (h : VO P E el H0 H sl l) (he : 0 < E.es) : ∃ H', Gh P [sl] H [Vv E l] H' ∧ (∀ c, c ≠ sblk sl → H'.get c = H.get c) ∧ H.next ≤ H'.next := by
  unfold VO at h
  generalize hn : l.length = n at h
  generalize hcs : l.flatMap E.enc = cs at h
  cases h with
  | nil =>
    refine ⟨H, ⟨rfl, fun ρ w cs hR hv => ⟨ρ, Ext.refl hR, ?_⟩⟩, fun _ _ => rfl, Nat.le_refl _⟩
    cases hv with
    | cons h1 h2 =>
      cases h2
      have hl : l = [] := List.length_eq_zero_iff.1 hn
      subst hl
      exact .cons (Nz.rel .nil h1) .nil
  | @row b off n c rs hg hb0 hb hc hl =>
    refine ⟨(H.kill b).bump (H.next + 1), ?_, fun c hc => by rw [get_bump]; exact get_kill_ne hc, by rw [next_bump]; exact Nat.le_succ _⟩
    have := Gh.sliceOU (P := P) (n := n) (c := c) (es := E.es) hg (hc.imp id fun h => h.1) he hl
    unfold Vv
    rw [hn, hcs]
    exact this
theorem VO.appendVT {α : Type} {E : En α} {P : Program} {H0 H : Heap} {el t : TypeId} {sl : Value} {l l2 : List α} (h : VO P E el H0 H sl l) (hle : Hle H0 H) (ht : P.underlying t = some (.slice el)) {i : TypeInfo} {z : Value} (hi : P.info? el = some i) (hz : i.zero = some z) (hzs : z.cells.size = i.size) (hs : szOf P el = E.es) (h0 : 0 < E.es) (ho : okSrc P t = true)
    (h1 : ∀ a ∈ l2, (E.enc a).all (·.oneCell') = true) (hsm : l.length + l2.length ≤ 9223372036854775807) (hb : (2 * (l.length + l2.length) + 200) * i.bytes ≤ 281474976710656) :
    ∃ v H', aAppend P H #[t, t] sl (Vv E l2) = some (v, H') ∧ VO P E el H0 H' v (l ++ l2) ∧ Hle H0 H' ∧ H.next ≤ H'.next := by
  obtain ⟨a1, a2, a3, a4, a5⟩ := Ow.append h hle ht hi hz hzs hs h0 ho (lenV_Vv (E := E) (l := l2)) (src_Vv H) (E.flat_length l2) (by
    simp only [List.all_eq_true, List.mem_flatMap] at h1 ⊢
    rintro x ⟨a, ha, hx⟩
    exact h1 a ha x hx) hsm hb
  refine ⟨_, _, a1, ?_, a3, a5⟩
  unfold VO
  rw [List.length_append, List.flatMap_append]
  exact a2
def twW (l : RW) : RW := ⟨l.locs, l.slots, l.edges ++ l.edges, l.viols⟩
theorem tw_ok {l : RW} (h : okW l = true) (h1 : LimW l) (h2 : SmW l) (hl : l.edges.length ≤ 40) : okW (twW l) = true ∧ LimW (twW l) ∧ SmW (twW l) := by
  have hM : maxLen = 9223372036854775807 := rfl
  obtain ⟨L, S, E, V⟩ := l
  obtain ⟨a1, a2, ⟨a3, a4⟩, a5, a6⟩ := h1
  obtain ⟨b1, b2⟩ := h2
  dsimp only at hl a1 a2 a3 a4 a5 a6 b1 b2
  unfold twW
  refine ⟨?_, ⟨a1, a2, ⟨by show (E ++ E).length ≤ _; rw [List.length_append]; omega, fun e he => ?_⟩, a5, a6⟩, ⟨fun e he => ?_, b2⟩⟩
  · unfold okW at h ⊢
    dsimp only at h ⊢
    rw [Bool.and_eq_true, Bool.and_eq_true] at h
    have h0 := of_decide_eq_true h.1.1
    rw [List.all_append, h.1.2, h.2, decide_eq_true (by rw [List.length_append]; omega)]
    rfl
  · rcases List.mem_append.1 he with he | he <;> exact a4 e he
  · rcases List.mem_append.1 he with he | he <;> exact b1 e he
theorem ordR_tw {l : RW} {a b : Value} (h : okW l = true) (h2 : okW (twW l) = true) : ordR (twW l) a b = ordR l a b := by
  unfold ordR
  rw [h, h2, if_pos rfl, if_pos rfl]
  have e : ordS (twW l).edges (twW l).locs.length = ordS l.edges l.locs.length := ordS_twice (n := l.locs.length) (by have := okW_n h; omega) (okW_out h)
  rw [e]
  rfl
theorem q293 {n : Int} {ns : List Int} (hn : 0 ≤ n ∧ n < 256) (hs : ∀ x ∈ ns, 0 ≤ x ∧ x < 256) (hl : ns.length ≤ maxLen) : PC Tryz.prog 8 [.int .u8 n, Vv eY ns] (.bool true) := by
  have hM : maxLen = 9223372036854775807 := rfl
  have hY : Pu (Vv eY ns) := pu_flat1 fun _ => .cons (.ground rfl) .nil
  refine PC.of (.cons (.ground rfl) (.cons hY .nil)) (.ground rfl) fun N hN => ?_
  have q141 := p141 hn hs (by omega)
  obtain ⟨ok1, _, lm1, sm1, _, _, hE40⟩ := edg_okU (ns := ns) hn.1
  obtain ⟨ok2, lm2, sm2⟩ := tw_ok ok1 lm1 sm1 hE40
  have q2 := p205 lm1 sm1
  have q3 := p205 lm2 sm2
  rw [ordR_tw ok1 ok2] at q3
  obtain ⟨h1, h2⟩ := ord_len ok1
  unfold ordR at q2 q3
  rw [ok1, if_pos rfl] at q2 q3
  generalize ordO (ordS (edgW n ns).edges (edgW n ns).locs.length) (edgW n ns).locs.length = o at *
  generalize (ordS (edgW n ns).edges (edgW n ns).locs.length).head = hd at *
  clear ok1 ok2 lm1 sm1 lm2 sm2
  unfold twW at q3
  generalize edgW n ns = l at *
  obtain ⟨L, S, E, V⟩ := l
  unfold Wv at *
  try dsimp only at *
  have r0 {z : Value} : rFill 6 z 0 [] = some [] := rFill_all (vs := []) (by simp)
  refine ACalls.of_code T.hm (n := 56) Tryz.func8 rfl rfl rfl rfl ?_; simp only [List.replicate_succ, List.replicate_zero, List.cons_append, List.nil_append]
  simp (maxSteps := 1000000) (disch := first | exact sd | fail) only [go_sem, Nat.reduceAdd, Nat.reduceSub, Nat.reduceLeDiff, ↓reduceIte, decide_eq_true_eq, if_true, if_false, Bool.false_eq_true, Int.lt_irrefl, implies_true, true_and, and_true, eq_self, and_self, beq_self_eq_true, aw_plan (id := 3) pl293_3, pl293_3]
  refine PC.step (q141) fun m1 j1 => ?_
  try simp only [Heap.next_push, Heap.next_set, Heap.next_kill, next_bump, next_E0] at j1
  simp (maxSteps := 30000000) (disch := first | exact sd | fail) only [go_sem, Nat.reduceAdd, Nat.reduceSub, Nat.reduceLeDiff, ↓reduceIte, decide_eq_true_eq, if_true, if_false, Bool.false_eq_true, Int.lt_irrefl, implies_true, true_and, and_true, eq_self, and_self, beq_self_eq_true, aw_plan (id := 3) pl293_3, pl293_3, r0]
  generalize hG : (Heap.push _ (AObj.row true 46 [])) = G
  have nG : G.next = m1 + 3 := by rw [← hG]; rfl
  have k9 : G.get m1 = some (.row true 27 [Vv eL L, Vv eS S, Vv eE E, Vv eV V]) := by rw [← hG]; simp (maxSteps := 1000000) (disch := first | exact sd | fail) only [go_sem, Nat.reduceAdd, Nat.reduceSub, Nat.reduceLeDiff, ↓reduceIte, decide_eq_true_eq, if_true, if_false, Bool.false_eq_true, Int.lt_irrefl, implies_true, true_and, and_true, eq_self, and_self, beq_self_eq_true, aw_plan (id := 3) pl293_3, pl293_3]
  have k10 : G.get (m1 + 1) = some (.row true 27 [Vv eL L, Vv eS S, Vv eE E, Vv eV V]) := by rw [← hG]; simp (maxSteps := 1000000) (disch := first | exact sd | fail) only [go_sem, Nat.reduceAdd, Nat.reduceSub, Nat.reduceLeDiff, ↓reduceIte, decide_eq_true_eq, if_true, if_false, Bool.false_eq_true, Int.lt_irrefl, implies_true, true_and, and_true, eq_self, and_self, beq_self_eq_true, aw_plan (id := 3) pl293_3, pl293_3]
  have k12 : G.get (m1 + 2) = some (.row true 46 []) := by rw [← hG]; simp (maxSteps := 1000000) (disch := first | exact sd | fail) only [go_sem, Nat.reduceAdd, Nat.reduceSub, Nat.reduceLeDiff, ↓reduceIte, decide_eq_true_eq, if_true, if_false, Bool.false_eq_true, Int.lt_irrefl, implies_true, true_and, and_true, eq_self, and_self, beq_self_eq_true, aw_plan (id := 3) pl293_3, pl293_3]
  clear hG
  generalize hHL : (⟨m1 + 2, G.tr, G.gh⟩ : Heap) = HL
  have hle0 : Hle HL G := by rw [← hHL]; exact lowHle (by omega)
  have nL : HL.next = m1 + 2 := by rw [← hHL]
  clear hHL
  have o4 : VO Tryz.prog eE 46 HL G (.slice (some ⟨m1 + 2, 0, none⟩) 0 0) [] := Ow.row (P := Tryz.prog) (H0 := HL) (H := G) (es := 6) (el := 46) (b := m1 + 2) (off := 0) (n := 0) (c := 0) k12 (by omega) (by omega) (.inr ⟨Nat.le_refl _, by unfold unk; omega, by decide⟩) (by decide)
  obtain ⟨v5, H5, e5, o5, l5, n5⟩ := VO.appendVT (l2 := E) o4 hle0 (t := 24) Tryz.underlying24 (info_of_type Tryz.type46) rfl rfl T.s145 (by decide) T.o128 (fun a _ => rfl) (by rw [List.length_nil]; omega) (by rw [List.length_nil]; show _ * 96 ≤ _; omega)
  have o5 : VO Tryz.prog eE 46 HL H5 v5 E := o5
  obtain ⟨v6, H6, e6, o6, l6, n6⟩ := VO.appendVT (l2 := E) o5 l5 (t := 24) Tryz.underlying24 (info_of_type Tryz.type46) rfl rfl T.s145 (by decide) T.o128 (fun a _ => rfl) (by omega) (by show _ * 96 ≤ _; omega)
  have is5 := o5.isSl
  have is6 := o6.isSl
  have d9 := ((l5.get m1 (by omega)).trans (hle0.get m1 (by omega)).symm).trans k9
  have f9 := ((l6.get m1 (by omega)).trans (hle0.get m1 (by omega)).symm).trans k9
  have f10 := ((l6.get (m1 + 1) (by omega)).trans (hle0.get (m1 + 1) (by omega)).symm).trans k10
  simp (maxSteps := 30000000) (disch := first | exact sd | fail) only [go_sem, Nat.reduceAdd, Nat.reduceSub, Nat.reduceLeDiff, ↓reduceIte, decide_eq_true_eq, if_true, if_false, Bool.false_eq_true, Int.lt_irrefl, implies_true, true_and, and_true, eq_self, and_self, beq_self_eq_true, aw_plan (id := 3) pl293_3, pl293_3, k9, e5, d9, e6, f9, f10]
  refine PC.step (q2) fun m2 j2 => ?_
  try simp only [Heap.next_push, Heap.next_set, Heap.next_kill, next_bump, next_E0] at j2
  simp (maxSteps := 30000000) (disch := first | exact sd | fail) only [go_sem, Nat.reduceAdd, Nat.reduceSub, Nat.reduceLeDiff, ↓reduceIte, decide_eq_true_eq, if_true, if_false, Bool.false_eq_true, Int.lt_irrefl, implies_true, true_and, and_true, eq_self, and_self, beq_self_eq_true, aw_plan (id := 3) pl293_3, pl293_3]
  have o7 : VO Tryz.prog eE 46 HL ((H6.set (m1 + 1) (.row true 27 [Vv eL L, Vv eS S, v6, Vv eV V])).bump m2) v6 (E ++ E) := (o6.setFU (by omega) _).bump j2
  obtain ⟨Y, y1, y2, y3⟩ := Gh.voXT o7 (by decide)
  refine ACalls.gh (Gh.agg (Gh.tail (Gh.tail (Gh.head y1)))) ?_
  refine PC.step (q3) fun m3 j3 => ?_
  try simp only [Heap.next_push, Heap.next_set, Heap.next_kill, next_bump, next_E0] at j3
  simp (maxSteps := 30000000) (disch := first | exact sd | fail) only [go_sem, Nat.reduceAdd, Nat.reduceSub, Nat.reduceLeDiff, ↓reduceIte, decide_eq_true_eq, if_true, if_false, Bool.false_eq_true, Int.lt_irrefl, implies_true, true_and, and_true, eq_self, and_self, beq_self_eq_true, aw_plan (id := 3) pl293_3, pl293_3]
  refine PC.step (p45 (x := 0)) fun m4 j4 => ?_
  try simp only [Heap.next_push, Heap.next_set, Heap.next_kill, next_bump, next_E0] at j4
  simp (maxSteps := 30000000) (disch := first | exact sd | fail) only [go_sem, Nat.reduceAdd, Nat.reduceSub, Nat.reduceLeDiff, ↓reduceIte, decide_eq_true_eq, if_true, if_false, Bool.false_eq_true, Int.lt_irrefl, implies_true, true_and, and_true, eq_self, and_self, beq_self_eq_true, aw_plan (id := 3) pl293_3, pl293_3]
  refine PC.step (p45 (x := 0)) fun m5 j5 => ?_
  try simp only [Heap.next_push, Heap.next_set, Heap.next_kill, next_bump, next_E0] at j5
  simp (maxSteps := 30000000) (disch := first | exact sd | fail) only [go_sem, Nat.reduceAdd, Nat.reduceSub, Nat.reduceLeDiff, ↓reduceIte, decide_eq_true_eq, if_true, if_false, Bool.false_eq_true, Int.lt_irrefl, implies_true, true_and, and_true, eq_self, and_self, beq_self_eq_true, aw_plan (id := 3) pl293_3, pl293_3]
  refine PC.step (p295 h1) fun m6 j6 => ?_
  try simp only [Heap.next_push, Heap.next_set, Heap.next_kill, next_bump, next_E0] at j6
  simp (maxSteps := 30000000) (disch := first | exact sd | fail) only [go_sem, Nat.reduceAdd, Nat.reduceSub, Nat.reduceLeDiff, ↓reduceIte, decide_eq_true_eq, if_true, if_false, Bool.false_eq_true, Int.lt_irrefl, implies_true, true_and, and_true, eq_self, and_self, beq_self_eq_true, aw_plan (id := 3) pl293_3, pl293_3]
  refine PC.step (p296 h2) fun m7 j7 => ?_
  try simp only [Heap.next_push, Heap.next_set, Heap.next_kill, next_bump, next_E0] at j7
  simp (maxSteps := 30000000) (disch := first | exact sd | fail) only [go_sem, Nat.reduceAdd, Nat.reduceSub, Nat.reduceLeDiff, ↓reduceIte, decide_eq_true_eq, if_true, if_false, Bool.false_eq_true, Int.lt_irrefl, implies_true, true_and, and_true, eq_self, and_self, beq_self_eq_true, aw_plan (id := 3) pl293_3, pl293_3]
  refine PC.step (p294) fun m8 j8 => ?_
  try simp only [Heap.next_push, Heap.next_set, Heap.next_kill, next_bump, next_E0] at j8
  simp (maxSteps := 30000000) (disch := first | exact sd | fail) only [go_sem, Nat.reduceAdd, Nat.reduceSub, Nat.reduceLeDiff, ↓reduceIte, decide_eq_true_eq, if_true, if_false, Bool.false_eq_true, Int.lt_irrefl, implies_true, true_and, and_true, eq_self, and_self, beq_self_eq_true, aw_plan (id := 3) pl293_3, pl293_3]
  exact .rfl
theorem lawOrderTwice {H : Heap} {xs : List Value} (hf : ∀ b, H.next ≤ b → H.get b = none) (hg : GoodArgs Tryz.prog H 8 [5, 40] xs) : ACalls Tryz.prog 8 xs H fun v _ => v = .bool true := by
  obtain ⟨ps, h1, h2, h3⟩ := args_frz hf (by intro t ht; simp only [List.mem_cons, List.not_mem_nil, or_false] at ht; rcases ht with rfl | rfl <;> kernel_rfl) hg
  obtain ⟨p0, ps0, rfl, a0, r0⟩ := h3.cons
  obtain ⟨n, rfl, hn⟩ := a0.int Tryz.underlying5
  obtain ⟨p1, ps1, rfl, a1, r1⟩ := r0.cons
  obtain ⟨ns, rfl, hl, hs⟩ := a1.ints8U
  obtain rfl := r1.nil
  exact (q293 (wf_u8 hn) hs hl).law h1
end Go.Abs
