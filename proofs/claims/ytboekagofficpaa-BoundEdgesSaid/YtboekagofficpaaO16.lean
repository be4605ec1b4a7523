/- How many sweeps there are at most. -/
import Derived.Test.YtboekagofficpaaO14
import Derived.Test.YtboekagofficpaaO15
set_option linter.unusedVariables false
set_option linter.unusedSimpArgs false
namespace Go.Abs
open Go Go.Proofs
set_option maxRecDepth 100000
set_option maxHeartbeats 40000000
def plO16_139_11 : Plan := ⟨[0, 1, 2, 6, 7, 8, 9], [(3, [7], [4, 5, 10, 11, 12])]⟩
def plO16_140_10 : Plan := ⟨[0, 1, 2, 6, 7, 8, 9], [(3, [7], [4, 5, 10, 11, 12])]⟩
/-- So many heads. -/
def cntH (l : List Bool) (k : Nat) : Nat := ((l.take k).filter id).length
theorem cntH_succ {l : List Bool} {k : Nat} (h : k < l.length) : cntH l (k + 1) = cntH l k + if l.getD k false = true then 1 else 0 := by
  unfold cntH
  rw [List.take_add_one, List.getD_eq_getElem?_getD, List.getElem?_eq_getElem h, List.filter_append, List.length_append]
  congr 1
  cases l[k] <;> rfl
theorem cntH_le {l : List Bool} {k : Nat} : cntH l k ≤ k := by
  unfold cntH
  have := List.length_filter_le id (l.take k)
  rw [List.length_take] at this
  omega
def sweepsV (l : RW) (d : Int) (th : List RQ) (w r : Int) : Nat := if okW l then (cntH (ordS l.edges l.locs.length).head l.locs.length * turnsV d th w r + 1) * (l.locs.length + 1) + 1 else 0
theorem p139 {l : RW} {d w r : Int} {th : List RQ} (h : LimW l) (hs : SmW l) (ht : SmT th) : PC Try.prog 10 [Wv l, Opv d th w, .int .i64 r] (.int .i64 (sweepsV l d th w r)) := by
  have q0 := p205 h hs
  have q1 := p137 (d := d) (w := w) (r := r) ht
  have hw := @okW_n l
  have hoi := @ordS_OI l
  have hT := turnsV_le (d := d) (th := th) (w := w) (r := r)
  refine PC.of (.cons pu_W (.cons pu_Op (.cons (.ground rfl) .nil))) (.ground rfl) fun N hN => ?_
  unfold sweepsV
  unfold ordR at q0
  generalize okW l = b at *
  generalize turnsV d th w r = tv at *
  obtain ⟨L, S, E, V⟩ := l
  unfold Wv Opv at *
  try dsimp only at *
  refine ACalls.of_code T.hm (n := 40) Try.func10 rfl rfl rfl rfl ?_; simp only [List.replicate_succ, List.replicate_zero, List.cons_append, List.nil_append]
  simp (maxSteps := 1000000) (disch := first | exact sd | fail) only [go_sem, Nat.reduceAdd, Nat.reduceSub, Nat.reduceLeDiff, ↓reduceIte, decide_eq_true_eq, if_true, if_false, Bool.false_eq_true, Int.lt_irrefl, implies_true, true_and, and_true, eq_self, and_self, beq_self_eq_true, aw_plan (id := 11) plO16_139_11, plO16_139_11]
  refine PC.step (q0) fun m1 j1 => ?_
  try simp only [Heap.next_push, Heap.next_set, Heap.next_kill, next_bump, next_E0] at j1
  cases b with
  | false =>
    simp (maxSteps := 1000000) (disch := first | exact sd | fail) only [go_sem, Nat.reduceAdd, Nat.reduceSub, Nat.reduceLeDiff, ↓reduceIte, decide_eq_true_eq, if_true, if_false, Bool.false_eq_true, Int.lt_irrefl, implies_true, true_and, and_true, eq_self, and_self, beq_self_eq_true, aw_plan (id := 11) plO16_139_11, plO16_139_11, Bool.false_eq_true, if_false, ne_eq, Int.reduceEq, not_false_eq_true, decide_true]
    exact .rfl
  | true =>
  obtain ⟨w1, w2, _⟩ := hw rfl
  have hhd := (hoi rfl).head
  clear hw hoi q0
  try dsimp only at hhd
  rw [if_pos rfl, if_pos rfl]
  generalize ordS E L.length = Z at *
  have hH : cntH Z.head L.length * tv ≤ 40 * 740 := Nat.mul_le_mul (Nat.le_trans cntH_le w2) hT
  have hp : (cntH Z.head L.length : Int) * (tv : Int) = ((cntH Z.head L.length * tv : Nat) : Int) := by rw [Int.natCast_mul]
  have hQ : (cntH Z.head L.length * tv + 1) * (L.length + 1) ≤ 29601 * 41 := Nat.mul_le_mul (by omega) (by omega)
  have hq : (((cntH Z.head L.length * tv : Nat) : Int) + 1) * ((L.length : Int) + 1) = (((cntH Z.head L.length * tv + 1) * (L.length + 1) : Nat) : Int) := by rw [Int.natCast_mul]; rfl
  simp (maxSteps := 1000000) (disch := first | exact sd | fail) only [go_sem, Nat.reduceAdd, Nat.reduceSub, Nat.reduceLeDiff, ↓reduceIte, decide_eq_true_eq, if_true, if_false, Bool.false_eq_true, Int.lt_irrefl, implies_true, true_and, and_true, eq_self, and_self, beq_self_eq_true, aw_plan (id := 11) plO16_139_11, plO16_139_11, ne_eq, not_true_eq_false, decide_false]
  rw [hhd]
  refine aw_loopS (σ := Nat) (fun k J => [J 0, J 1, .int .i64 r, .pointer (some ⟨N, 0, none⟩), .pointer (some ⟨N + 1, 0, none⟩), J 5, J 6, J 7, J 8, J 9, .int .i64 (cntH Z.head k), J 11, J 12, J 13, J 14, J 15, J 16, J 17, J 18, J 19, J 20, Vv eB Z.head, .int .i64 L.length, .int .i64 k, J 24, J 25, J 26, J 27, J 28, J 29, J 30, J 31, J 32, J 33, J 34, J 35, J 36, J 37, J 38, J 39, J 40, J 41, J 42]) (fun m k => m = L.length - k ∧ k ≤ L.length) L.length 0 rfl ⟨rfl, Nat.zero_le _⟩ ?_
  rintro m k J ⟨rfl, hk⟩
  by_cases h4 : (k : Int) < L.length
  · have h5 : (k : Int).toNat = k := rfl
    have hk2 : (k : Int) < (Z.head.length : Nat) := by omega
    have hc := cntH_succ (l := Z.head) (k := k) (by omega)
    have hcl := cntH_le (l := Z.head) (k := k)
    cases h6 : Z.head.getD k false with
    | true =>
      rw [h6, if_pos rfl] at hc
      simp (maxSteps := 1000000) (disch := first | exact sd | fail) only [go_sem, Nat.reduceAdd, Nat.reduceSub, Nat.reduceLeDiff, ↓reduceIte, decide_eq_true_eq, if_true, if_false, Bool.false_eq_true, Int.lt_irrefl, implies_true, true_and, and_true, eq_self, and_self, beq_self_eq_true, aw_plan (id := 11) plO16_139_11, plO16_139_11, h4, hk2, hhd, h5, h6]
      refine IJ_intro (k := L.length - (k + 1)) (by omega) (k + 1) ?_ ⟨⟨rfl, by omega⟩, rfl⟩
      rw [hc]
      rfl
    | false =>
      rw [h6, if_neg (by decide), Nat.add_zero] at hc
      simp (maxSteps := 1000000) (disch := first | exact sd | fail) only [go_sem, Nat.reduceAdd, Nat.reduceSub, Nat.reduceLeDiff, ↓reduceIte, decide_eq_true_eq, if_true, if_false, Bool.false_eq_true, Int.lt_irrefl, implies_true, true_and, and_true, eq_self, and_self, beq_self_eq_true, aw_plan (id := 11) plO16_139_11, plO16_139_11, h4, hk2, hhd, h5, h6]
      refine IJ_intro (k := L.length - (k + 1)) (by omega) (k + 1) ?_ ⟨⟨rfl, by omega⟩, rfl⟩
      rw [hc]
      rfl
  have e : k = L.length := by omega
  subst e
  generalize cntH Z.head L.length * tv = p at *
  generalize (p + 1) * (L.length + 1) = q at *
  generalize cntH Z.head L.length = c at *
  simp (maxSteps := 1000000) (disch := first | exact sd | fail) only [go_sem, Nat.reduceAdd, Nat.reduceSub, Nat.reduceLeDiff, ↓reduceIte, decide_eq_true_eq, if_true, if_false, Bool.false_eq_true, Int.lt_irrefl, implies_true, true_and, and_true, eq_self, and_self, beq_self_eq_true, aw_plan (id := 11) plO16_139_11, plO16_139_11, h4, hhd]
  refine PC.step (q1) fun m2 j2 => ?_
  try simp only [Heap.next_push, Heap.next_set, Heap.next_kill, next_bump, next_E0] at j2
  simp (maxSteps := 1000000) (disch := first | exact sd | fail) only [go_sem, Nat.reduceAdd, Nat.reduceSub, Nat.reduceLeDiff, ↓reduceIte, decide_eq_true_eq, if_true, if_false, Bool.false_eq_true, Int.lt_irrefl, implies_true, true_and, and_true, eq_self, and_self, beq_self_eq_true, aw_plan (id := 11) plO16_139_11, plO16_139_11, hp, hq]
  exact .rfl
theorem p140 {l : RW} {d w r : Int} {th : List RQ} (h : LimW l) (hs : SmW l) (ht : SmT th) : PC Try.prog 11 [Wv l, Opv d th w, .int .i64 r] (.int .i64 (sweepsV l d th w r)) := by
  have q0 := p206 h hs
  have q1 := p138 (d := d) (w := w) (r := r) ht
  have hw := @okW_n l
  have hoi := @ordS_OI l
  have hT := turnsV_le (d := d) (th := th) (w := w) (r := r)
  refine PC.of (.cons pu_W (.cons pu_Op (.cons (.ground rfl) .nil))) (.ground rfl) fun N hN => ?_
  unfold sweepsV
  unfold ordR at q0
  generalize okW l = b at *
  generalize turnsV d th w r = tv at *
  obtain ⟨L, S, E, V⟩ := l
  unfold Wv Opv at *
  try dsimp only at *
  refine ACalls.of_code T.hm (n := 41) Try.func11 rfl rfl rfl rfl ?_; simp only [List.replicate_succ, List.replicate_zero, List.cons_append, List.nil_append]
  simp (maxSteps := 1000000) (disch := first | exact sd | fail) only [go_sem, Nat.reduceAdd, Nat.reduceSub, Nat.reduceLeDiff, ↓reduceIte, decide_eq_true_eq, if_true, if_false, Bool.false_eq_true, Int.lt_irrefl, implies_true, true_and, and_true, eq_self, and_self, beq_self_eq_true, aw_plan (id := 10) plO16_140_10, plO16_140_10]
  refine PC.step (q0) fun m1 j1 => ?_
  try simp only [Heap.next_push, Heap.next_set, Heap.next_kill, next_bump, next_E0] at j1
  cases b with
  | false =>
    simp (maxSteps := 1000000) (disch := first | exact sd | fail) only [go_sem, Nat.reduceAdd, Nat.reduceSub, Nat.reduceLeDiff, ↓reduceIte, decide_eq_true_eq, if_true, if_false, Bool.false_eq_true, Int.lt_irrefl, implies_true, true_and, and_true, eq_self, and_self, beq_self_eq_true, aw_plan (id := 10) plO16_140_10, plO16_140_10, Bool.false_eq_true, if_false, Bool.not_false]
    exact .rfl
  | true =>
  obtain ⟨w1, w2, _⟩ := hw rfl
  have hhd := (hoi rfl).head
  clear hw hoi q0
  try dsimp only at hhd
  rw [if_pos rfl, if_pos rfl]
  generalize ordS E L.length = Z at *
  have hH : cntH Z.head L.length * tv ≤ 40 * 740 := Nat.mul_le_mul (Nat.le_trans cntH_le w2) hT
  have hp : (cntH Z.head L.length : Int) * (tv : Int) = ((cntH Z.head L.length * tv : Nat) : Int) := by rw [Int.natCast_mul]
  have hQ : (cntH Z.head L.length * tv + 1) * (L.length + 1) ≤ 29601 * 41 := Nat.mul_le_mul (by omega) (by omega)
  have hq : (((cntH Z.head L.length * tv : Nat) : Int) + 1) * ((L.length : Int) + 1) = (((cntH Z.head L.length * tv + 1) * (L.length + 1) : Nat) : Int) := by rw [Int.natCast_mul]; rfl
  simp (maxSteps := 1000000) (disch := first | exact sd | fail) only [go_sem, Nat.reduceAdd, Nat.reduceSub, Nat.reduceLeDiff, ↓reduceIte, decide_eq_true_eq, if_true, if_false, Bool.false_eq_true, Int.lt_irrefl, implies_true, true_and, and_true, eq_self, and_self, beq_self_eq_true, aw_plan (id := 10) plO16_140_10, plO16_140_10, Bool.not_true]
  refine aw_loopS (σ := Nat) (fun k J => [J 0, J 1, .int .i64 r, .pointer (some ⟨N, 0, none⟩), .pointer (some ⟨N + 1, 0, none⟩), J 5, J 6, J 7, Vv eB Z.head, J 9, .int .i64 (cntH Z.head k), .int .i64 k, J 12, J 13, J 14, J 15, J 16, J 17, J 18, J 19, J 20, J 21, J 22, J 23, J 24, J 25, J 26, J 27, J 28, J 29, J 30, J 31, J 32, J 33, J 34, J 35, J 36, J 37, J 38, J 39, J 40, J 41, J 42, J 43]) (fun m k => m = L.length - k ∧ k ≤ L.length) L.length 0 rfl ⟨rfl, Nat.zero_le _⟩ ?_
  rintro m k J ⟨rfl, hk⟩
  by_cases h4 : (k : Int) < L.length
  · have h5 : (k : Int).toNat = k := rfl
    have hk2 : (k : Int) < (Z.head.length : Nat) := by omega
    have hc := cntH_succ (l := Z.head) (k := k) (by omega)
    have hcl := cntH_le (l := Z.head) (k := k)
    cases h6 : Z.head.getD k false with
    | true =>
      rw [h6, if_pos rfl] at hc
      simp (maxSteps := 1000000) (disch := first | exact sd | fail) only [go_sem, Nat.reduceAdd, Nat.reduceSub, Nat.reduceLeDiff, ↓reduceIte, decide_eq_true_eq, if_true, if_false, Bool.false_eq_true, Int.lt_irrefl, implies_true, true_and, and_true, eq_self, and_self, beq_self_eq_true, aw_plan (id := 10) plO16_140_10, plO16_140_10, h4, hk2, hhd, h5, h6]
      refine IJ_intro (k := L.length - (k + 1)) (by omega) (k + 1) ?_ ⟨⟨rfl, by omega⟩, rfl⟩
      rw [hc]
      rfl
    | false =>
      rw [h6, if_neg (by decide), Nat.add_zero] at hc
      simp (maxSteps := 1000000) (disch := first | exact sd | fail) only [go_sem, Nat.reduceAdd, Nat.reduceSub, Nat.reduceLeDiff, ↓reduceIte, decide_eq_true_eq, if_true, if_false, Bool.false_eq_true, Int.lt_irrefl, implies_true, true_and, and_true, eq_self, and_self, beq_self_eq_true, aw_plan (id := 10) plO16_140_10, plO16_140_10, h4, hk2, hhd, h5, h6]
      refine IJ_intro (k := L.length - (k + 1)) (by omega) (k + 1) ?_ ⟨⟨rfl, by omega⟩, rfl⟩
      rw [hc]
      rfl
  have e : k = L.length := by omega
  subst e
  generalize cntH Z.head L.length * tv = p at *
  generalize (p + 1) * (L.length + 1) = q at *
  generalize cntH Z.head L.length = c at *
  simp (maxSteps := 1000000) (disch := first | exact sd | fail) only [go_sem, Nat.reduceAdd, Nat.reduceSub, Nat.reduceLeDiff, ↓reduceIte, decide_eq_true_eq, if_true, if_false, Bool.false_eq_true, Int.lt_irrefl, implies_true, true_and, and_true, eq_self, and_self, beq_self_eq_true, aw_plan (id := 10) plO16_140_10, plO16_140_10, h4, hhd]
  refine PC.step (q1) fun m2 j2 => ?_
  try simp only [Heap.next_push, Heap.next_set, Heap.next_kill, next_bump, next_E0] at j2
  simp (maxSteps := 1000000) (disch := first | exact sd | fail) only [go_sem, Nat.reduceAdd, Nat.reduceSub, Nat.reduceLeDiff, ↓reduceIte, decide_eq_true_eq, if_true, if_false, Bool.false_eq_true, Int.lt_irrefl, implies_true, true_and, and_true, eq_self, and_self, beq_self_eq_true, aw_plan (id := 10) plO16_140_10, plO16_140_10, hp, hq]
  exact .rfl
end Go.Abs
