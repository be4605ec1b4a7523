/- ExtFolds, on values. -/
import Derived.Test.YthiaciajkjdcnaaW7
set_option linter.unusedVariables false
set_option linter.unusedSimpArgs false
namespace Go.Abs
open Go Go.Proofs
set_option maxRecDepth 100000
set_option maxHeartbeats 40000000
def plL26_26_3 : Plan := ⟨[0, 1, 2, 3, 4, 5, 6, 7, 8, 9, 10, 11, 12, 13, 14, 15, 16, 17, 18, 19, 20, 21], [(22, [17, 11, 8], []), (23, [17, 11], []), (24, [17], []), (25, [], [])]⟩
def plL26_26_7 : Plan := ⟨[0, 1, 2, 3, 4], [(5, [], []), (6, [], [])]⟩
def plL26_26_8 : Plan := ⟨[0, 1, 2, 3, 4, 5, 6, 7, 8], [(9, [], []), (10, [], [])]⟩
def plL26_26_9 : Plan := ⟨[0, 1, 2, 3, 4], [(5, [], []), (6, [], [])]⟩
def plL26_26_10 : Plan := ⟨[0, 1, 2, 3, 4, 5, 6, 7, 8], [(9, [], []), (10, [], [])]⟩
def plL26_26_14 : Plan := ⟨[0, 1, 2, 3, 4], [(5, [], [6, 7, 8, 9, 10, 11, 12]), (13, [], [14, 15])]⟩
def xe (l : List RX) (i : Nat) : XR := vx (l.getD i eX.d)
abbrev rX (H : Heap) (b : Nat) (a : RX) : Prop := H.get b = some (.row true 28 [.int .i64 a.kind, .bool a.v.p.neg, Vv eU a.v.p.l, .bool a.v.q.neg, Vv eU a.v.q.l])
structure FI (l : List RX) (k : Nat) (A B C D : RX) : Prop where
  a : vx A = fMax (xe l) (xe l 0) k ∧ Rx 6 A ∧ (0 < k → A = xv (fMax (xe l) (xe l 0) k))
  b : vx B = gMax (fun i => xe l (l.length - 1 - i)) (xe l (l.length - 1)) k ∧ Rx 6 B ∧ (0 < k → B = xv (gMax (fun i => xe l (l.length - 1 - i)) (xe l (l.length - 1)) k))
  c : vx C = fMin (xe l) (xe l 0) k ∧ Rx 6 C ∧ (0 < k → C = xv (fMin (xe l) (xe l 0) k))
  d : vx D = gMin (fun i => xe l (l.length - 1 - i)) (xe l (l.length - 1)) k ∧ Rx 6 D ∧ (0 < k → D = xv (gMin (fun i => xe l (l.length - 1 - i)) (xe l (l.length - 1)) k))
theorem q26 {l : List RX} (hl : l.length ≤ maxLen ∧ ∀ a ∈ l, LimX a) : PC Try.prog 5 [Vv eX l] (.bool true) := by
  refine PC.of (.cons pu_Xs .nil) (.ground rfl) fun N hN => ?_
  have hM : maxLen = 9223372036854775807 := rfl
  have q99 := p99 (ls := l) (by omega)
  refine ACalls.of_code T.hm (n := 122) Try.func5 rfl rfl rfl rfl ?_; simp only [List.replicate_succ, List.replicate_zero, List.cons_append, List.nil_append]
  by_cases h0 : (l.length : Int) = 0
  · simp (maxSteps := 1000000) (disch := first | exact sd | fail) only [go_sem, Nat.reduceAdd, Nat.reduceSub, Nat.reduceLeDiff, ↓reduceIte, decide_eq_true_eq, if_true, if_false, Bool.false_eq_true, Int.lt_irrefl, implies_true, true_and, and_true, eq_self, and_self, beq_self_eq_true, aw_plan (id := 3) plL26_26_3, plL26_26_3, aw_plan (id := 7) plL26_26_7, plL26_26_7, aw_plan (id := 8) plL26_26_8, plL26_26_8, aw_plan (id := 9) plL26_26_9, plL26_26_9, aw_plan (id := 10) plL26_26_10, plL26_26_10, aw_plan (id := 14) plL26_26_14, plL26_26_14, h0]
    refine PC.step (p100) fun m1 j1 => ?_
    try simp only [Heap.next_push, Heap.next_set, Heap.next_kill, next_bump, next_E0] at j1
    simp (maxSteps := 1000000) (disch := first | exact sd | fail) only [go_sem, Nat.reduceAdd, Nat.reduceSub, Nat.reduceLeDiff, ↓reduceIte, decide_eq_true_eq, if_true, if_false, Bool.false_eq_true, Int.lt_irrefl, implies_true, true_and, and_true, eq_self, and_self, beq_self_eq_true, aw_plan (id := 3) plL26_26_3, plL26_26_3, aw_plan (id := 7) plL26_26_7, plL26_26_7, aw_plan (id := 8) plL26_26_8, plL26_26_8, aw_plan (id := 9) plL26_26_9, plL26_26_9, aw_plan (id := 10) plL26_26_10, plL26_26_10, aw_plan (id := 14) plL26_26_14, plL26_26_14]
    exact .rfl
  by_cases h40 : (40 : Int) < l.length
  · simp (maxSteps := 1000000) (disch := first | exact sd | fail) only [go_sem, Nat.reduceAdd, Nat.reduceSub, Nat.reduceLeDiff, ↓reduceIte, decide_eq_true_eq, if_true, if_false, Bool.false_eq_true, Int.lt_irrefl, implies_true, true_and, and_true, eq_self, and_self, beq_self_eq_true, aw_plan (id := 3) plL26_26_3, plL26_26_3, aw_plan (id := 7) plL26_26_7, plL26_26_7, aw_plan (id := 8) plL26_26_8, plL26_26_8, aw_plan (id := 9) plL26_26_9, plL26_26_9, aw_plan (id := 10) plL26_26_10, plL26_26_10, aw_plan (id := 14) plL26_26_14, plL26_26_14, h0, h40]
    refine PC.step (p100) fun m1 j1 => ?_
    try simp only [Heap.next_push, Heap.next_set, Heap.next_kill, next_bump, next_E0] at j1
    simp (maxSteps := 1000000) (disch := first | exact sd | fail) only [go_sem, Nat.reduceAdd, Nat.reduceSub, Nat.reduceLeDiff, ↓reduceIte, decide_eq_true_eq, if_true, if_false, Bool.false_eq_true, Int.lt_irrefl, implies_true, true_and, and_true, eq_self, and_self, beq_self_eq_true, aw_plan (id := 3) plL26_26_3, plL26_26_3, aw_plan (id := 7) plL26_26_7, plL26_26_7, aw_plan (id := 8) plL26_26_8, plL26_26_8, aw_plan (id := 9) plL26_26_9, plL26_26_9, aw_plan (id := 10) plL26_26_10, plL26_26_10, aw_plan (id := 14) plL26_26_14, plL26_26_14]
    exact .rfl
  cases hg : l.any gx with
  | true =>
    rw [hg] at q99
    simp (maxSteps := 1000000) (disch := first | exact sd | fail) only [go_sem, Nat.reduceAdd, Nat.reduceSub, Nat.reduceLeDiff, ↓reduceIte, decide_eq_true_eq, if_true, if_false, Bool.false_eq_true, Int.lt_irrefl, implies_true, true_and, and_true, eq_self, and_self, beq_self_eq_true, aw_plan (id := 3) plL26_26_3, plL26_26_3, aw_plan (id := 7) plL26_26_7, plL26_26_7, aw_plan (id := 8) plL26_26_8, plL26_26_8, aw_plan (id := 9) plL26_26_9, plL26_26_9, aw_plan (id := 10) plL26_26_10, plL26_26_10, aw_plan (id := 14) plL26_26_14, plL26_26_14, h0, h40]
    refine PC.step (q99) fun m1 j1 => ?_
    try simp only [Heap.next_push, Heap.next_set, Heap.next_kill, next_bump, next_E0] at j1
    simp (maxSteps := 1000000) (disch := first | exact sd | fail) only [go_sem, Nat.reduceAdd, Nat.reduceSub, Nat.reduceLeDiff, ↓reduceIte, decide_eq_true_eq, if_true, if_false, Bool.false_eq_true, Int.lt_irrefl, implies_true, true_and, and_true, eq_self, and_self, beq_self_eq_true, aw_plan (id := 3) plL26_26_3, plL26_26_3, aw_plan (id := 7) plL26_26_7, plL26_26_7, aw_plan (id := 8) plL26_26_8, plL26_26_8, aw_plan (id := 9) plL26_26_9, plL26_26_9, aw_plan (id := 10) plL26_26_10, plL26_26_10, aw_plan (id := 14) plL26_26_14, plL26_26_14]
    refine PC.step (p100) fun m2 j2 => ?_
    try simp only [Heap.next_push, Heap.next_set, Heap.next_kill, next_bump, next_E0] at j2
    simp (maxSteps := 1000000) (disch := first | exact sd | fail) only [go_sem, Nat.reduceAdd, Nat.reduceSub, Nat.reduceLeDiff, ↓reduceIte, decide_eq_true_eq, if_true, if_false, Bool.false_eq_true, Int.lt_irrefl, implies_true, true_and, and_true, eq_self, and_self, beq_self_eq_true, aw_plan (id := 3) plL26_26_3, plL26_26_3, aw_plan (id := 7) plL26_26_7, plL26_26_7, aw_plan (id := 8) plL26_26_8, plL26_26_8, aw_plan (id := 9) plL26_26_9, plL26_26_9, aw_plan (id := 10) plL26_26_10, plL26_26_10, aw_plan (id := 14) plL26_26_14, plL26_26_14]
    exact .rfl
  | false =>
    rw [hg] at q99
    have hn : 0 < l.length := by omega
    have hr (j : Nat) : Rx 6 (l.getD j eX.d) := by
      rcases Nat.lt_or_ge j l.length with hj | hj
      · rw [List.getD_eq_getElem?_getD, List.getElem?_eq_getElem hj]
        have := List.any_eq_false.1 hg _ (List.getElem_mem hj)
        exact gx_rx (hl.2 _ (List.getElem_mem hj)) (by simpa using this)
      · rw [List.getD_eq_getElem?_getD, List.getElem?_eq_none hj]; exact ⟨Lim.nil, Lim.nil, Nat.zero_le _, Nat.zero_le _⟩
    have hr' (j : Nat) : Rx (2 ^ 30) (l.getD j eX.d) := (hr j).mono (by decide)
    have lx6 (j : Nat) : lx (xe l j) ≤ 6 := lx_vx (hr j) (by decide)
    have p1 : (0 : Int) < l.length := by omega
    have p2 : (0 : Int) ≤ l.length - 1 := by omega
    have p3 : (l.length : Int) - 1 < l.length := by omega
    have p4 : ((l.length : Int) - 1).toNat = l.length - 1 := by omega
    simp (maxSteps := 1000000) (disch := first | exact sd | fail) only [go_sem, Nat.reduceAdd, Nat.reduceSub, Nat.reduceLeDiff, ↓reduceIte, decide_eq_true_eq, if_true, if_false, Bool.false_eq_true, Int.lt_irrefl, implies_true, true_and, and_true, eq_self, and_self, beq_self_eq_true, aw_plan (id := 3) plL26_26_3, plL26_26_3, aw_plan (id := 7) plL26_26_7, plL26_26_7, aw_plan (id := 8) plL26_26_8, plL26_26_8, aw_plan (id := 9) plL26_26_9, plL26_26_9, aw_plan (id := 10) plL26_26_10, plL26_26_10, aw_plan (id := 14) plL26_26_14, plL26_26_14, h0, h40]
    refine PC.step (q99) fun m1 j1 => ?_
    try simp only [Heap.next_push, Heap.next_set, Heap.next_kill, next_bump, next_E0] at j1
    simp (maxSteps := 1000000) (disch := first | exact sd | fail) only [go_sem, Nat.reduceAdd, Nat.reduceSub, Nat.reduceLeDiff, ↓reduceIte, decide_eq_true_eq, if_true, if_false, Bool.false_eq_true, Int.lt_irrefl, implies_true, true_and, and_true, eq_self, and_self, beq_self_eq_true, aw_plan (id := 3) plL26_26_3, plL26_26_3, aw_plan (id := 7) plL26_26_7, plL26_26_7, aw_plan (id := 8) plL26_26_8, plL26_26_8, aw_plan (id := 9) plL26_26_9, plL26_26_9, aw_plan (id := 10) plL26_26_10, plL26_26_10, aw_plan (id := 14) plL26_26_14, plL26_26_14, p1, p2, p3, p4, Int.toNat_zero]
    have hl0 : ∀ i, i < l.length → lx (xe l i) ≤ 6 := fun i _ => lx6 i
    have hl1 : ∀ i, i < l.length → lx ((fun i => xe l (l.length - 1 - i)) i) ≤ 6 := fun i _ => lx6 _
    refine aw_loopJ (σ := Nat × RX × RX × RX × RX) (fun s J => [Vv eX l, J 1, .bool false, .pointer (some ⟨m1, 0, none⟩), .pointer (some ⟨m1 + 1, 0, none⟩), .pointer (some ⟨m1 + 1 + 1, 0, none⟩), .pointer (some ⟨m1 + 1 + 1 + 1, 0, none⟩), .int .i64 s.1, J 8, J 9, J 10, J 11, J 12, J 13, J 14, J 15, J 16, J 17, J 18, J 19, J 20, J 21, J 22, J 23, J 24, J 25, J 26, J 27, J 28, J 29, J 30, J 31, J 32, J 33, J 34, J 35, J 36, J 37, J 38, J 39, J 40, J 41, J 42, J 43, J 44, J 45, J 46, J 47, J 48, J 49, J 50, J 51, J 52, J 53, J 54, J 55, J 56, J 57, J 58, J 59, J 60, J 61, J 62, J 63, J 64, J 65, J 66, J 67, J 68, J 69, J 70, J 71, J 72, J 73, J 74, J 75, J 76, J 77, J 78, J 79, J 80, J 81, J 82, J 83, J 84, J 85, J 86, J 87, J 88, J 89, J 90, J 91, J 92, J 93, J 94, J 95, J 96, J 97, J 98, J 99, J 100, J 101, J 102, J 103, J 104, J 105, J 106, J 107, J 108, J 109, J 110, J 111, J 112, J 113, J 114, J 115, J 116, J 117, J 118, J 119, J 120, J 121, J 122]) (fun i s H1 => i = l.length - s.1 ∧ s.1 ≤ l.length ∧ FI l s.1 s.2.1 s.2.2.1 s.2.2.2.1 s.2.2.2.2 ∧ rX H1 m1 s.2.1 ∧ rX H1 (m1 + 1) s.2.2.1 ∧ rX H1 (m1 + 1 + 1) s.2.2.2.1 ∧ rX H1 (m1 + 1 + 1 + 1) s.2.2.2.2 ∧ m1 + 1 + 1 + 1 < H1.next) l.length (0, l.getD 0 eX.d, l.getD (l.length - 1) eX.d, l.getD 0 eX.d, l.getD (l.length - 1) eX.d) rfl ⟨rfl, Nat.zero_le _, ⟨⟨rfl, hr _, fun h => absurd h (Nat.lt_irrefl 0)⟩, ⟨rfl, hr _, fun h => absurd h (Nat.lt_irrefl 0)⟩, ⟨rfl, hr _, fun h => absurd h (Nat.lt_irrefl 0)⟩, ⟨rfl, hr _, fun h => absurd h (Nat.lt_irrefl 0)⟩⟩, by unfold rX; simp (maxSteps := 1000000) (disch := first | exact sd | fail) only [go_sem, Nat.reduceAdd, Nat.reduceSub, Nat.reduceLeDiff, ↓reduceIte, decide_eq_true_eq, if_true, if_false, Bool.false_eq_true, Int.lt_irrefl, implies_true, true_and, and_true, eq_self, and_self, beq_self_eq_true, aw_plan (id := 3) plL26_26_3, plL26_26_3, aw_plan (id := 7) plL26_26_7, plL26_26_7, aw_plan (id := 8) plL26_26_8, plL26_26_8, aw_plan (id := 9) plL26_26_9, plL26_26_9, aw_plan (id := 10) plL26_26_10, plL26_26_10, aw_plan (id := 14) plL26_26_14, plL26_26_14], by unfold rX; simp (maxSteps := 1000000) (disch := first | exact sd | fail) only [go_sem, Nat.reduceAdd, Nat.reduceSub, Nat.reduceLeDiff, ↓reduceIte, decide_eq_true_eq, if_true, if_false, Bool.false_eq_true, Int.lt_irrefl, implies_true, true_and, and_true, eq_self, and_self, beq_self_eq_true, aw_plan (id := 3) plL26_26_3, plL26_26_3, aw_plan (id := 7) plL26_26_7, plL26_26_7, aw_plan (id := 8) plL26_26_8, plL26_26_8, aw_plan (id := 9) plL26_26_9, plL26_26_9, aw_plan (id := 10) plL26_26_10, plL26_26_10, aw_plan (id := 14) plL26_26_14, plL26_26_14], by unfold rX; simp (maxSteps := 1000000) (disch := first | exact sd | fail) only [go_sem, Nat.reduceAdd, Nat.reduceSub, Nat.reduceLeDiff, ↓reduceIte, decide_eq_true_eq, if_true, if_false, Bool.false_eq_true, Int.lt_irrefl, implies_true, true_and, and_true, eq_self, and_self, beq_self_eq_true, aw_plan (id := 3) plL26_26_3, plL26_26_3, aw_plan (id := 7) plL26_26_7, plL26_26_7, aw_plan (id := 8) plL26_26_8, plL26_26_8, aw_plan (id := 9) plL26_26_9, plL26_26_9, aw_plan (id := 10) plL26_26_10, plL26_26_10, aw_plan (id := 14) plL26_26_14, plL26_26_14], by unfold rX; simp (maxSteps := 1000000) (disch := first | exact sd | fail) only [go_sem, Nat.reduceAdd, Nat.reduceSub, Nat.reduceLeDiff, ↓reduceIte, decide_eq_true_eq, if_true, if_false, Bool.false_eq_true, Int.lt_irrefl, implies_true, true_and, and_true, eq_self, and_self, beq_self_eq_true, aw_plan (id := 3) plL26_26_3, plL26_26_3, aw_plan (id := 7) plL26_26_7, plL26_26_7, aw_plan (id := 8) plL26_26_8, plL26_26_8, aw_plan (id := 9) plL26_26_9, plL26_26_9, aw_plan (id := 10) plL26_26_10, plL26_26_10, aw_plan (id := 14) plL26_26_14, plL26_26_14], by simp (maxSteps := 1000000) (disch := first | exact sd | fail) only [go_sem, Nat.reduceAdd, Nat.reduceSub, Nat.reduceLeDiff, ↓reduceIte, decide_eq_true_eq, if_true, if_false, Bool.false_eq_true, Int.lt_irrefl, implies_true, true_and, and_true, eq_self, and_self, beq_self_eq_true, aw_plan (id := 3) plL26_26_3, plL26_26_3, aw_plan (id := 7) plL26_26_7, plL26_26_7, aw_plan (id := 8) plL26_26_8, plL26_26_8, aw_plan (id := 9) plL26_26_9, plL26_26_9, aw_plan (id := 10) plL26_26_10, plL26_26_10, aw_plan (id := 14) plL26_26_14, plL26_26_14]; omega⟩ ?_
    rintro i ⟨k, A, B, C, D⟩ J H1 ⟨rfl, hk, hI, gA, gB, gC, gD, hnx⟩
    simp only at hk hI gA gB gC gD
    unfold rX at gA gB gC gD
    obtain ⟨⟨a1, a2, a3⟩, ⟨b1, b2, b3⟩, ⟨c1, c2, c3⟩, ⟨d1, d2, d3⟩⟩ := hI
    by_cases h4 : (k : Int) < l.length
    · have i1 : (0 : Int) ≤ l.length - 1 - k := by omega
      have i2 : (l.length : Int) - 1 - k < l.length := by omega
      have i3 : ((l.length : Int) - 1 - k).toNat = l.length - 1 - k := by omega
      have q1 := p103v (a2.mono (show 6 ≤ 2 ^ 30 by decide)) (hr' k)
      have q2 := p103v (hr' (l.length - 1 - k)) (b2.mono (show 6 ≤ 2 ^ 30 by decide))
      have q3 := p104v (c2.mono (show 6 ≤ 2 ^ 30 by decide)) (hr' k)
      have q4 := p104v (hr' (l.length - 1 - k)) (d2.mono (show 6 ≤ 2 ^ 30 by decide))
      rw [a1] at q1
      rw [b1] at q2
      rw [c1] at q3
      rw [d1] at q4
      change PC Try.prog 15 _ (Xn (fMax (xe l) (xe l 0) (k + 1))) at q1
      change PC Try.prog 15 _ (Xn (gMax (fun i => xe l (l.length - 1 - i)) (xe l (l.length - 1)) (k + 1))) at q2
      change PC Try.prog 16 _ (Xn (fMin (xe l) (xe l 0) (k + 1))) at q3
      change PC Try.prog 16 _ (Xn (gMin (fun i => xe l (l.length - 1 - i)) (xe l (l.length - 1)) (k + 1))) at q4
      have la := lx_fMax (x := xe l) (a := xe l 0) (lx6 0) (k := k + 1) (fun i hi => hl0 i (by omega))
      have lb := lx_gMax (x := fun i => xe l (l.length - 1 - i)) (a := xe l (l.length - 1)) (lx6 _) (k := k + 1) (fun i hi => hl1 i (by omega))
      have lc := lx_fMin (x := xe l) (a := xe l 0) (lx6 0) (k := k + 1) (fun i hi => hl0 i (by omega))
      have ld := lx_gMin (x := fun i => xe l (l.length - 1 - i)) (a := xe l (l.length - 1)) (lx6 _) (k := k + 1) (fun i hi => hl1 i (by omega))
      have hI : FI l (k + 1) (xv (fMax (xe l) (xe l 0) (k + 1))) (xv (gMax (fun i => xe l (l.length - 1 - i)) (xe l (l.length - 1)) (k + 1))) (xv (fMin (xe l) (xe l 0) (k + 1))) (xv (gMin (fun i => xe l (l.length - 1 - i)) (xe l (l.length - 1)) (k + 1))) :=
        ⟨⟨vx_xv _, Rx.xv la, fun _ => rfl⟩, ⟨vx_xv _, Rx.xv lb, fun _ => rfl⟩, ⟨vx_xv _, Rx.xv lc, fun _ => rfl⟩, ⟨vx_xv _, Rx.xv ld, fun _ => rfl⟩⟩
      generalize fMax (xe l) (xe l 0) (k + 1) = fa at *
      generalize gMax (fun i => xe l (l.length - 1 - i)) (xe l (l.length - 1)) (k + 1) = fb at *
      generalize fMin (xe l) (xe l 0) (k + 1) = fc at *
      generalize gMin (fun i => xe l (l.length - 1 - i)) (xe l (l.length - 1)) (k + 1) = fd at *
      simp (maxSteps := 1000000) (disch := first | exact sd | fail) only [go_sem, Nat.reduceAdd, Nat.reduceSub, Nat.reduceLeDiff, ↓reduceIte, decide_eq_true_eq, if_true, if_false, Bool.false_eq_true, Int.lt_irrefl, implies_true, true_and, and_true, eq_self, and_self, beq_self_eq_true, aw_plan (id := 3) plL26_26_3, plL26_26_3, aw_plan (id := 7) plL26_26_7, plL26_26_7, aw_plan (id := 8) plL26_26_8, plL26_26_8, aw_plan (id := 9) plL26_26_9, plL26_26_9, aw_plan (id := 10) plL26_26_10, plL26_26_10, aw_plan (id := 14) plL26_26_14, plL26_26_14, h4, gA, Int.toNat_natCast]
      refine PC.step (q1) fun m2 j2 => ?_
      try simp only [Heap.next_push, Heap.next_set, Heap.next_kill, next_bump, next_E0] at j2
      simp (maxSteps := 1000000) (disch := first | exact sd | fail) only [go_sem, Nat.reduceAdd, Nat.reduceSub, Nat.reduceLeDiff, ↓reduceIte, decide_eq_true_eq, if_true, if_false, Bool.false_eq_true, Int.lt_irrefl, implies_true, true_and, and_true, eq_self, and_self, beq_self_eq_true, aw_plan (id := 3) plL26_26_3, plL26_26_3, aw_plan (id := 7) plL26_26_7, plL26_26_7, aw_plan (id := 8) plL26_26_8, plL26_26_8, aw_plan (id := 9) plL26_26_9, plL26_26_9, aw_plan (id := 10) plL26_26_10, plL26_26_10, aw_plan (id := 14) plL26_26_14, plL26_26_14, gA, gB, i1, i2, i3, Xn_eq]
      refine PC.step (q2) fun m3 j3 => ?_
      try simp only [Heap.next_push, Heap.next_set, Heap.next_kill, next_bump, next_E0] at j3
      simp (maxSteps := 1000000) (disch := first | exact sd | fail) only [go_sem, Nat.reduceAdd, Nat.reduceSub, Nat.reduceLeDiff, ↓reduceIte, decide_eq_true_eq, if_true, if_false, Bool.false_eq_true, Int.lt_irrefl, implies_true, true_and, and_true, eq_self, and_self, beq_self_eq_true, aw_plan (id := 3) plL26_26_3, plL26_26_3, aw_plan (id := 7) plL26_26_7, plL26_26_7, aw_plan (id := 8) plL26_26_8, plL26_26_8, aw_plan (id := 9) plL26_26_9, plL26_26_9, aw_plan (id := 10) plL26_26_10, plL26_26_10, aw_plan (id := 14) plL26_26_14, plL26_26_14, gB, gC, h4, Int.toNat_natCast, Xn_eq]
      refine PC.step (q3) fun m4 j4 => ?_
      try simp only [Heap.next_push, Heap.next_set, Heap.next_kill, next_bump, next_E0] at j4
      simp (maxSteps := 1000000) (disch := first | exact sd | fail) only [go_sem, Nat.reduceAdd, Nat.reduceSub, Nat.reduceLeDiff, ↓reduceIte, decide_eq_true_eq, if_true, if_false, Bool.false_eq_true, Int.lt_irrefl, implies_true, true_and, and_true, eq_self, and_self, beq_self_eq_true, aw_plan (id := 3) plL26_26_3, plL26_26_3, aw_plan (id := 7) plL26_26_7, plL26_26_7, aw_plan (id := 8) plL26_26_8, plL26_26_8, aw_plan (id := 9) plL26_26_9, plL26_26_9, aw_plan (id := 10) plL26_26_10, plL26_26_10, aw_plan (id := 14) plL26_26_14, plL26_26_14, gC, gD, i1, i2, i3, Xn_eq]
      refine PC.step (q4) fun m5 j5 => ?_
      try simp only [Heap.next_push, Heap.next_set, Heap.next_kill, next_bump, next_E0] at j5
      simp (maxSteps := 1000000) (disch := first | exact sd | fail) only [go_sem, Nat.reduceAdd, Nat.reduceSub, Nat.reduceLeDiff, ↓reduceIte, decide_eq_true_eq, if_true, if_false, Bool.false_eq_true, Int.lt_irrefl, implies_true, true_and, and_true, eq_self, and_self, beq_self_eq_true, aw_plan (id := 3) plL26_26_3, plL26_26_3, aw_plan (id := 7) plL26_26_7, plL26_26_7, aw_plan (id := 8) plL26_26_8, plL26_26_8, aw_plan (id := 9) plL26_26_9, plL26_26_9, aw_plan (id := 10) plL26_26_10, plL26_26_10, aw_plan (id := 14) plL26_26_14, plL26_26_14, gD, Xn_eq]
      refine IJ_intro (k := l.length - (k + 1)) (by omega) (k + 1, xv fa, xv fb, xv fc, xv fd) rfl ⟨rfl, by dsimp only; omega, hI, by unfold rX; simp (maxSteps := 1000000) (disch := first | exact sd | fail) only [go_sem, Nat.reduceAdd, Nat.reduceSub, Nat.reduceLeDiff, ↓reduceIte, decide_eq_true_eq, if_true, if_false, Bool.false_eq_true, Int.lt_irrefl, implies_true, true_and, and_true, eq_self, and_self, beq_self_eq_true, aw_plan (id := 3) plL26_26_3, plL26_26_3, aw_plan (id := 7) plL26_26_7, plL26_26_7, aw_plan (id := 8) plL26_26_8, plL26_26_8, aw_plan (id := 9) plL26_26_9, plL26_26_9, aw_plan (id := 10) plL26_26_10, plL26_26_10, aw_plan (id := 14) plL26_26_14, plL26_26_14], by unfold rX; simp (maxSteps := 1000000) (disch := first | exact sd | fail) only [go_sem, Nat.reduceAdd, Nat.reduceSub, Nat.reduceLeDiff, ↓reduceIte, decide_eq_true_eq, if_true, if_false, Bool.false_eq_true, Int.lt_irrefl, implies_true, true_and, and_true, eq_self, and_self, beq_self_eq_true, aw_plan (id := 3) plL26_26_3, plL26_26_3, aw_plan (id := 7) plL26_26_7, plL26_26_7, aw_plan (id := 8) plL26_26_8, plL26_26_8, aw_plan (id := 9) plL26_26_9, plL26_26_9, aw_plan (id := 10) plL26_26_10, plL26_26_10, aw_plan (id := 14) plL26_26_14, plL26_26_14], by unfold rX; simp (maxSteps := 1000000) (disch := first | exact sd | fail) only [go_sem, Nat.reduceAdd, Nat.reduceSub, Nat.reduceLeDiff, ↓reduceIte, decide_eq_true_eq, if_true, if_false, Bool.false_eq_true, Int.lt_irrefl, implies_true, true_and, and_true, eq_self, and_self, beq_self_eq_true, aw_plan (id := 3) plL26_26_3, plL26_26_3, aw_plan (id := 7) plL26_26_7, plL26_26_7, aw_plan (id := 8) plL26_26_8, plL26_26_8, aw_plan (id := 9) plL26_26_9, plL26_26_9, aw_plan (id := 10) plL26_26_10, plL26_26_10, aw_plan (id := 14) plL26_26_14, plL26_26_14], by unfold rX; simp (maxSteps := 1000000) (disch := first | exact sd | fail) only [go_sem, Nat.reduceAdd, Nat.reduceSub, Nat.reduceLeDiff, ↓reduceIte, decide_eq_true_eq, if_true, if_false, Bool.false_eq_true, Int.lt_irrefl, implies_true, true_and, and_true, eq_self, and_self, beq_self_eq_true, aw_plan (id := 3) plL26_26_3, plL26_26_3, aw_plan (id := 7) plL26_26_7, plL26_26_7, aw_plan (id := 8) plL26_26_8, plL26_26_8, aw_plan (id := 9) plL26_26_9, plL26_26_9, aw_plan (id := 10) plL26_26_10, plL26_26_10, aw_plan (id := 14) plL26_26_14, plL26_26_14], by simp (maxSteps := 1000000) (disch := first | exact sd | fail) only [go_sem, Nat.reduceAdd, Nat.reduceSub, Nat.reduceLeDiff, ↓reduceIte, decide_eq_true_eq, if_true, if_false, Bool.false_eq_true, Int.lt_irrefl, implies_true, true_and, and_true, eq_self, and_self, beq_self_eq_true, aw_plan (id := 3) plL26_26_3, plL26_26_3, aw_plan (id := 7) plL26_26_7, plL26_26_7, aw_plan (id := 8) plL26_26_8, plL26_26_8, aw_plan (id := 9) plL26_26_9, plL26_26_9, aw_plan (id := 10) plL26_26_10, plL26_26_10, aw_plan (id := 14) plL26_26_14, plL26_26_14]; omega⟩
    · have e : k = l.length := by omega
      subst e
      have e1 := max_one (x := xe l) (n := l.length) hn
      have e2 := min_one (x := xe l) (n := l.length) hn
      obtain ⟨u1, u2⟩ := fMax_ub (x := xe l) (a := xe l 0) (k := l.length)
      obtain ⟨v1, v2⟩ := fMin_lb (x := xe l) (a := xe l 0) (k := l.length)
      have a3 := a3 hn
      have b3 := b3 hn
      have c3 := c3 hn
      have d3 := d3 hn
      rw [← e1] at b3
      rw [← e2] at d3
      have la := lx_fMax (x := xe l) (a := xe l 0) (lx6 0) (k := l.length) hl0
      have lc := lx_fMin (x := xe l) (a := xe l 0) (lx6 0) (k := l.length) hl0
      generalize fMax (xe l) (xe l 0) l.length = F at *
      generalize fMin (xe l) (xe l 0) l.length = G at *
      subst a3 b3 c3 d3
      clear a1 b1 c1 d1 a2 b2 c2 d2 e1 e2
      have rF : Rx (2 ^ 30) (xv F) := Rx.xv (by omega)
      have rG : Rx (2 ^ 30) (xv G) := Rx.xv (by omega)
      simp (maxSteps := 1000000) (disch := first | exact sd | fail) only [go_sem, Nat.reduceAdd, Nat.reduceSub, Nat.reduceLeDiff, ↓reduceIte, decide_eq_true_eq, if_true, if_false, Bool.false_eq_true, Int.lt_irrefl, implies_true, true_and, and_true, eq_self, and_self, beq_self_eq_true, aw_plan (id := 3) plL26_26_3, plL26_26_3, aw_plan (id := 7) plL26_26_7, plL26_26_7, aw_plan (id := 8) plL26_26_8, plL26_26_8, aw_plan (id := 9) plL26_26_9, plL26_26_9, aw_plan (id := 10) plL26_26_10, plL26_26_10, aw_plan (id := 14) plL26_26_14, plL26_26_14, h4]
      refine aw_loopJ (σ := Nat) (fun s J => [Vv eX l, J 1, .bool false, .pointer (some ⟨m1, 0, none⟩), .pointer (some ⟨m1 + 1, 0, none⟩), .pointer (some ⟨m1 + 1 + 1, 0, none⟩), .pointer (some ⟨m1 + 1 + 1 + 1, 0, none⟩), J 7, .int .i64 s, J 9, J 10, J 11, J 12, J 13, J 14, J 15, J 16, J 17, J 18, J 19, J 20, J 21, J 22, J 23, J 24, J 25, J 26, J 27, J 28, J 29, J 30, J 31, J 32, J 33, J 34, J 35, J 36, J 37, J 38, J 39, J 40, J 41, J 42, J 43, J 44, J 45, J 46, J 47, J 48, J 49, J 50, J 51, J 52, J 53, J 54, J 55, J 56, J 57, J 58, J 59, J 60, J 61, J 62, J 63, J 64, J 65, J 66, J 67, J 68, J 69, J 70, J 71, J 72, J 73, J 74, J 75, J 76, J 77, J 78, J 79, J 80, J 81, J 82, J 83, J 84, J 85, J 86, J 87, J 88, J 89, J 90, J 91, J 92, J 93, J 94, J 95, J 96, J 97, J 98, J 99, J 100, J 101, J 102, J 103, J 104, J 105, J 106, J 107, J 108, J 109, J 110, J 111, J 112, J 113, J 114, J 115, J 116, J 117, J 118, J 119, J 120, J 121, J 122]) (fun i s H1 => i = l.length - s ∧ s ≤ l.length ∧ rX H1 m1 (xv F) ∧ rX H1 (m1 + 1) (xv F) ∧ rX H1 (m1 + 1 + 1) (xv G) ∧ rX H1 (m1 + 1 + 1 + 1) (xv G) ∧ m1 + 1 + 1 + 1 < H1.next) l.length 0 rfl ⟨rfl, Nat.zero_le _, gA, gB, gC, gD, hnx⟩ ?_
      clear gA gB gC gD hnx
      rintro i j J H1 ⟨rfl, hj, gA, gB, gC, gD, hnx⟩
      unfold rX at gA gB gC gD
      by_cases h5 : (j : Int) < l.length
      · have w1 := u2 j (by omega)
        have w2 : 0 ≤ cx (xe l j) G := by have := v2 j (by omega); rw [cx_swap]; omega
        have q1 := p102v (hr' j) rF
        have q2 := p102v (hr' j) rG
        rw [vx_xv] at q1 q2
        change PC Try.prog 14 _ (.int .i64 (cx (xe l j) F)) at q1
        change PC Try.prog 14 _ (.int .i64 (cx (xe l j) G)) at q2
        generalize cx (xe l j) F = i1 at *
        generalize cx (xe l j) G = i2 at *
        simp (maxSteps := 1000000) (disch := first | exact sd | fail) only [go_sem, Nat.reduceAdd, Nat.reduceSub, Nat.reduceLeDiff, ↓reduceIte, decide_eq_true_eq, if_true, if_false, Bool.false_eq_true, Int.lt_irrefl, implies_true, true_and, and_true, eq_self, and_self, beq_self_eq_true, aw_plan (id := 3) plL26_26_3, plL26_26_3, aw_plan (id := 7) plL26_26_7, plL26_26_7, aw_plan (id := 8) plL26_26_8, plL26_26_8, aw_plan (id := 9) plL26_26_9, plL26_26_9, aw_plan (id := 10) plL26_26_10, plL26_26_10, aw_plan (id := 14) plL26_26_14, plL26_26_14, h5, gA, Int.toNat_natCast]
        refine PC.step (q1) fun m2 j2 => ?_
        try simp only [Heap.next_push, Heap.next_set, Heap.next_kill, next_bump, next_E0] at j2
        simp (maxSteps := 1000000) (disch := first | exact sd | fail) only [go_sem, Nat.reduceAdd, Nat.reduceSub, Nat.reduceLeDiff, ↓reduceIte, decide_eq_true_eq, if_true, if_false, Bool.false_eq_true, Int.lt_irrefl, implies_true, true_and, and_true, eq_self, and_self, beq_self_eq_true, aw_plan (id := 3) plL26_26_3, plL26_26_3, aw_plan (id := 7) plL26_26_7, plL26_26_7, aw_plan (id := 8) plL26_26_8, plL26_26_8, aw_plan (id := 9) plL26_26_9, plL26_26_9, aw_plan (id := 10) plL26_26_10, plL26_26_10, aw_plan (id := 14) plL26_26_14, plL26_26_14, gC, show ¬ 0 < i1 by omega, h5, Int.toNat_natCast]
        refine PC.step (q2) fun m3 j3 => ?_
        try simp only [Heap.next_push, Heap.next_set, Heap.next_kill, next_bump, next_E0] at j3
        simp (maxSteps := 1000000) (disch := first | exact sd | fail) only [go_sem, Nat.reduceAdd, Nat.reduceSub, Nat.reduceLeDiff, ↓reduceIte, decide_eq_true_eq, if_true, if_false, Bool.false_eq_true, Int.lt_irrefl, implies_true, true_and, and_true, eq_self, and_self, beq_self_eq_true, aw_plan (id := 3) plL26_26_3, plL26_26_3, aw_plan (id := 7) plL26_26_7, plL26_26_7, aw_plan (id := 8) plL26_26_8, plL26_26_8, aw_plan (id := 9) plL26_26_9, plL26_26_9, aw_plan (id := 10) plL26_26_10, plL26_26_10, aw_plan (id := 14) plL26_26_14, plL26_26_14, show ¬ i2 < 0 by omega]
        exact IJ_intro (k := l.length - (j + 1)) (by omega) (j + 1) rfl ⟨rfl, by omega, by unfold rX; simp (maxSteps := 1000000) (disch := first | exact sd | fail) only [go_sem, Nat.reduceAdd, Nat.reduceSub, Nat.reduceLeDiff, ↓reduceIte, decide_eq_true_eq, if_true, if_false, Bool.false_eq_true, Int.lt_irrefl, implies_true, true_and, and_true, eq_self, and_self, beq_self_eq_true, aw_plan (id := 3) plL26_26_3, plL26_26_3, aw_plan (id := 7) plL26_26_7, plL26_26_7, aw_plan (id := 8) plL26_26_8, plL26_26_8, aw_plan (id := 9) plL26_26_9, plL26_26_9, aw_plan (id := 10) plL26_26_10, plL26_26_10, aw_plan (id := 14) plL26_26_14, plL26_26_14, gA], by unfold rX; simp (maxSteps := 1000000) (disch := first | exact sd | fail) only [go_sem, Nat.reduceAdd, Nat.reduceSub, Nat.reduceLeDiff, ↓reduceIte, decide_eq_true_eq, if_true, if_false, Bool.false_eq_true, Int.lt_irrefl, implies_true, true_and, and_true, eq_self, and_self, beq_self_eq_true, aw_plan (id := 3) plL26_26_3, plL26_26_3, aw_plan (id := 7) plL26_26_7, plL26_26_7, aw_plan (id := 8) plL26_26_8, plL26_26_8, aw_plan (id := 9) plL26_26_9, plL26_26_9, aw_plan (id := 10) plL26_26_10, plL26_26_10, aw_plan (id := 14) plL26_26_14, plL26_26_14, gB], by unfold rX; simp (maxSteps := 1000000) (disch := first | exact sd | fail) only [go_sem, Nat.reduceAdd, Nat.reduceSub, Nat.reduceLeDiff, ↓reduceIte, decide_eq_true_eq, if_true, if_false, Bool.false_eq_true, Int.lt_irrefl, implies_true, true_and, and_true, eq_self, and_self, beq_self_eq_true, aw_plan (id := 3) plL26_26_3, plL26_26_3, aw_plan (id := 7) plL26_26_7, plL26_26_7, aw_plan (id := 8) plL26_26_8, plL26_26_8, aw_plan (id := 9) plL26_26_9, plL26_26_9, aw_plan (id := 10) plL26_26_10, plL26_26_10, aw_plan (id := 14) plL26_26_14, plL26_26_14, gC], by unfold rX; simp (maxSteps := 1000000) (disch := first | exact sd | fail) only [go_sem, Nat.reduceAdd, Nat.reduceSub, Nat.reduceLeDiff, ↓reduceIte, decide_eq_true_eq, if_true, if_false, Bool.false_eq_true, Int.lt_irrefl, implies_true, true_and, and_true, eq_self, and_self, beq_self_eq_true, aw_plan (id := 3) plL26_26_3, plL26_26_3, aw_plan (id := 7) plL26_26_7, plL26_26_7, aw_plan (id := 8) plL26_26_8, plL26_26_8, aw_plan (id := 9) plL26_26_9, plL26_26_9, aw_plan (id := 10) plL26_26_10, plL26_26_10, aw_plan (id := 14) plL26_26_14, plL26_26_14, gD], by simp (maxSteps := 1000000) (disch := first | exact sd | fail) only [go_sem, Nat.reduceAdd, Nat.reduceSub, Nat.reduceLeDiff, ↓reduceIte, decide_eq_true_eq, if_true, if_false, Bool.false_eq_true, Int.lt_irrefl, implies_true, true_and, and_true, eq_self, and_self, beq_self_eq_true, aw_plan (id := 3) plL26_26_3, plL26_26_3, aw_plan (id := 7) plL26_26_7, plL26_26_7, aw_plan (id := 8) plL26_26_8, plL26_26_8, aw_plan (id := 9) plL26_26_9, plL26_26_9, aw_plan (id := 10) plL26_26_10, plL26_26_10, aw_plan (id := 14) plL26_26_14, plL26_26_14]; omega⟩
      · have q1 := p102v rF rF
        have q2 := p102v rG rG
        rw [cx_self] at q1 q2
        simp (maxSteps := 1000000) (disch := first | exact sd | fail) only [go_sem, Nat.reduceAdd, Nat.reduceSub, Nat.reduceLeDiff, ↓reduceIte, decide_eq_true_eq, if_true, if_false, Bool.false_eq_true, Int.lt_irrefl, implies_true, true_and, and_true, eq_self, and_self, beq_self_eq_true, aw_plan (id := 3) plL26_26_3, plL26_26_3, aw_plan (id := 7) plL26_26_7, plL26_26_7, aw_plan (id := 8) plL26_26_8, plL26_26_8, aw_plan (id := 9) plL26_26_9, plL26_26_9, aw_plan (id := 10) plL26_26_10, plL26_26_10, aw_plan (id := 14) plL26_26_14, plL26_26_14, h5, gA, gB]
        refine PC.step (q1) fun m2 j2 => ?_
        try simp only [Heap.next_push, Heap.next_set, Heap.next_kill, next_bump, next_E0] at j2
        simp (maxSteps := 1000000) (disch := first | exact sd | fail) only [go_sem, Nat.reduceAdd, Nat.reduceSub, Nat.reduceLeDiff, ↓reduceIte, decide_eq_true_eq, if_true, if_false, Bool.false_eq_true, Int.lt_irrefl, implies_true, true_and, and_true, eq_self, and_self, beq_self_eq_true, aw_plan (id := 3) plL26_26_3, plL26_26_3, aw_plan (id := 7) plL26_26_7, plL26_26_7, aw_plan (id := 8) plL26_26_8, plL26_26_8, aw_plan (id := 9) plL26_26_9, plL26_26_9, aw_plan (id := 10) plL26_26_10, plL26_26_10, aw_plan (id := 14) plL26_26_14, plL26_26_14, gC, gD]
        refine PC.step (q2) fun m3 j3 => ?_
        try simp only [Heap.next_push, Heap.next_set, Heap.next_kill, next_bump, next_E0] at j3
        simp (maxSteps := 1000000) (disch := first | exact sd | fail) only [go_sem, Nat.reduceAdd, Nat.reduceSub, Nat.reduceLeDiff, ↓reduceIte, decide_eq_true_eq, if_true, if_false, Bool.false_eq_true, Int.lt_irrefl, implies_true, true_and, and_true, eq_self, and_self, beq_self_eq_true, aw_plan (id := 3) plL26_26_3, plL26_26_3, aw_plan (id := 7) plL26_26_7, plL26_26_7, aw_plan (id := 8) plL26_26_8, plL26_26_8, aw_plan (id := 9) plL26_26_9, plL26_26_9, aw_plan (id := 10) plL26_26_10, plL26_26_10, aw_plan (id := 14) plL26_26_14, plL26_26_14, gA, gB]
        refine PC.step (p105 (a := F) (by omega) rfl) fun m4 j4 => ?_
        try simp only [Heap.next_push, Heap.next_set, Heap.next_kill, next_bump, next_E0] at j4
        simp (maxSteps := 1000000) (disch := first | exact sd | fail) only [go_sem, Nat.reduceAdd, Nat.reduceSub, Nat.reduceLeDiff, ↓reduceIte, decide_eq_true_eq, if_true, if_false, Bool.false_eq_true, Int.lt_irrefl, implies_true, true_and, and_true, eq_self, and_self, beq_self_eq_true, aw_plan (id := 3) plL26_26_3, plL26_26_3, aw_plan (id := 7) plL26_26_7, plL26_26_7, aw_plan (id := 8) plL26_26_8, plL26_26_8, aw_plan (id := 9) plL26_26_9, plL26_26_9, aw_plan (id := 10) plL26_26_10, plL26_26_10, aw_plan (id := 14) plL26_26_14, plL26_26_14, gC, gD]
        refine PC.step (p105 (a := G) (by omega) rfl) fun m5 j5 => ?_
        try simp only [Heap.next_push, Heap.next_set, Heap.next_kill, next_bump, next_E0] at j5
        simp (maxSteps := 1000000) (disch := first | exact sd | fail) only [go_sem, Nat.reduceAdd, Nat.reduceSub, Nat.reduceLeDiff, ↓reduceIte, decide_eq_true_eq, if_true, if_false, Bool.false_eq_true, Int.lt_irrefl, implies_true, true_and, and_true, eq_self, and_self, beq_self_eq_true, aw_plan (id := 3) plL26_26_3, plL26_26_3, aw_plan (id := 7) plL26_26_7, plL26_26_7, aw_plan (id := 8) plL26_26_8, plL26_26_8, aw_plan (id := 9) plL26_26_9, plL26_26_9, aw_plan (id := 10) plL26_26_10, plL26_26_10, aw_plan (id := 14) plL26_26_14, plL26_26_14]
        refine PC.step (p100) fun m6 j6 => ?_
        try simp only [Heap.next_push, Heap.next_set, Heap.next_kill, next_bump, next_E0] at j6
        simp (maxSteps := 1000000) (disch := first | exact sd | fail) only [go_sem, Nat.reduceAdd, Nat.reduceSub, Nat.reduceLeDiff, ↓reduceIte, decide_eq_true_eq, if_true, if_false, Bool.false_eq_true, Int.lt_irrefl, implies_true, true_and, and_true, eq_self, and_self, beq_self_eq_true, aw_plan (id := 3) plL26_26_3, plL26_26_3, aw_plan (id := 7) plL26_26_7, plL26_26_7, aw_plan (id := 8) plL26_26_8, plL26_26_8, aw_plan (id := 9) plL26_26_9, plL26_26_9, aw_plan (id := 10) plL26_26_10, plL26_26_10, aw_plan (id := 14) plL26_26_14, plL26_26_14]
        exact .rfl
theorem lawExtFolds {H : Heap} {xs : List Value} (hf : ∀ b, H.next ≤ b → H.get b = none) (hg : GoodArgs Try.prog H 8 [36] xs) : ACalls Try.prog 5 xs H fun v _ => v = .bool true := by
  obtain ⟨ps, h1, h2, h3⟩ := args_frz hf (by intro t ht; simp only [List.mem_cons, List.not_mem_nil, or_false] at ht; subst ht; kernel_rfl) hg
  obtain ⟨p0, ps0, rfl, a0, r0⟩ := h3.cons
  obtain ⟨l, rfl, hl⟩ := a0.exts
  obtain rfl := r0.nil
  exact (q26 hl).law h1
end Go.Abs
