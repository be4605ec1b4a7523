/- Lowered programs: which are right: the document's, the program's. -/
import Derived.Test.YtboekagofficpaaGreatO4
set_option linter.unusedVariables false
set_option linter.unusedSimpArgs false
namespace Go.Abs
open Go Go.Proofs
set_option maxRecDepth 100000
set_option maxHeartbeats 4000000
def plO5_199_1 : Plan := ⟨[0, 1, 2, 3, 4, 5, 6], [(7, [4], [8])]⟩
theorem p202 {l : RW} (h : LimW l) (hs : SmW l) : PC Tryz.prog 24 [Wv l] (.bool (okW l)) := by
  have hM : maxLen = 9223372036854775807 := rfl
  obtain ⟨hl, hsl, ⟨he, hE⟩, hv, hV⟩ := h
  obtain ⟨sE, sV⟩ := hs
  obtain ⟨L, S, E, V⟩ := l
  dsimp only at hl hsl he hE hv hV sE sV
  refine PC.of (.cons pu_W .nil) (.ground rfl) fun N hN => ?_
  have hout : ¬ (1 ≤ L.length ∧ L.length ≤ 40 ∧ S.length ≤ 6 ∧ E.length ≤ 200 ∧ V.length ≤ 200) → okW ⟨L, S, E, V⟩ = false := fun h => by unfold okW; dsimp only; rw [decide_eq_false h, Bool.false_and, Bool.false_and]
  have hoE : ∀ s, s < E.length → okE L.length S.length (E.getD s eE.d) = false → okW ⟨L, S, E, V⟩ = false := fun s h1 h2 => by unfold okW; dsimp only; rw [not_all h1 h2, Bool.and_false, Bool.false_and]
  have hoV : ∀ s, s < V.length → okV L.length S.length (V.getD s eV.d) = false → okW ⟨L, S, E, V⟩ = false := fun s h1 h2 => by unfold okW; dsimp only; rw [not_all h1 h2, Bool.and_false]
  have hyes : (1 ≤ L.length ∧ L.length ≤ 40 ∧ S.length ≤ 6 ∧ E.length ≤ 200 ∧ V.length ≤ 200) → (∀ j, j < E.length → okE L.length S.length (E.getD j eE.d) = true) → (∀ j, j < V.length → okV L.length S.length (V.getD j eV.d) = true) → okW ⟨L, S, E, V⟩ = true := fun h1 h2 h3 => by unfold okW; dsimp only; rw [decide_eq_true h1, all_getD h2, all_getD h3]; rfl
  generalize okW ⟨L, S, E, V⟩ = w at *
  unfold Wv
  try dsimp only
  refine ACalls.of_code T.hm (n := 149) Tryz.func24 rfl rfl rfl rfl ?_; simp only [List.replicate_succ, List.replicate_zero, List.cons_append, List.nil_append]
  by_cases c1 : (L.length : Int) < 1
  · simp (maxSteps := 1000000) (disch := first | exact sd | fail) only [go_sem, Nat.reduceAdd, Nat.reduceSub, Nat.reduceLeDiff, ↓reduceIte, decide_eq_true_eq, if_true, if_false, Bool.false_eq_true, Int.lt_irrefl, implies_true, true_and, and_true, eq_self, and_self, beq_self_eq_true, c1]
    rw [hout (by omega)]; exact .rfl
  by_cases c2 : (40 : Int) < L.length
  · simp (maxSteps := 1000000) (disch := first | exact sd | fail) only [go_sem, Nat.reduceAdd, Nat.reduceSub, Nat.reduceLeDiff, ↓reduceIte, decide_eq_true_eq, if_true, if_false, Bool.false_eq_true, Int.lt_irrefl, implies_true, true_and, and_true, eq_self, and_self, beq_self_eq_true, c1, c2]
    rw [hout (by omega)]; exact .rfl
  by_cases c3 : (6 : Int) < S.length
  · simp (maxSteps := 1000000) (disch := first | exact sd | fail) only [go_sem, Nat.reduceAdd, Nat.reduceSub, Nat.reduceLeDiff, ↓reduceIte, decide_eq_true_eq, if_true, if_false, Bool.false_eq_true, Int.lt_irrefl, implies_true, true_and, and_true, eq_self, and_self, beq_self_eq_true, c1, c2, c3]
    rw [hout (by omega)]; exact .rfl
  by_cases k4 : (200 : Int) < E.length
  · simp (maxSteps := 1000000) (disch := first | exact sd | fail) only [go_sem, Nat.reduceAdd, Nat.reduceSub, Nat.reduceLeDiff, ↓reduceIte, decide_eq_true_eq, if_true, if_false, Bool.false_eq_true, Int.lt_irrefl, implies_true, true_and, and_true, eq_self, and_self, beq_self_eq_true, c1, c2, c3, k4]
    rw [hout (by omega)]; exact .rfl
  by_cases c5 : (200 : Int) < V.length
  · simp (maxSteps := 1000000) (disch := first | exact sd | fail) only [go_sem, Nat.reduceAdd, Nat.reduceSub, Nat.reduceLeDiff, ↓reduceIte, decide_eq_true_eq, if_true, if_false, Bool.false_eq_true, Int.lt_irrefl, implies_true, true_and, and_true, eq_self, and_self, beq_self_eq_true, c1, c2, c3, k4, c5]
    rw [hout (by omega)]; exact .rfl
  simp (maxSteps := 1000000) (disch := first | exact sd | fail) only [go_sem, Nat.reduceAdd, Nat.reduceSub, Nat.reduceLeDiff, ↓reduceIte, decide_eq_true_eq, if_true, if_false, Bool.false_eq_true, Int.lt_irrefl, implies_true, true_and, and_true, eq_self, and_self, beq_self_eq_true, c1, c2, c3, k4, c5]
  refine aw_loopJ (σ := Nat) (fun s J => [J 0, .pointer (some ⟨N, 0, none⟩), .bool false, .int .i64 S.length, .int .i64 s, J 5, J 6, J 7, J 8, J 9, J 10, J 11, J 12, J 13, J 14, J 15, J 16, J 17, J 18, J 19, J 20, J 21, J 22, J 23, J 24, J 25, J 26, J 27, J 28, J 29, J 30, J 31, J 32, J 33, J 34, J 35, J 36, J 37, J 38, J 39, J 40, J 41, J 42, J 43, J 44, J 45, J 46, J 47, J 48, J 49, J 50, J 51, J 52, J 53, J 54, J 55, J 56, J 57, J 58, J 59, J 60, J 61, J 62, J 63, J 64, J 65, J 66, J 67, J 68, J 69, J 70, J 71, J 72, J 73, J 74, J 75, J 76, J 77, J 78, J 79, J 80, J 81, J 82, J 83, J 84, J 85, J 86, J 87, J 88, J 89, J 90, J 91, J 92, J 93, J 94, J 95, J 96, J 97, J 98, J 99, J 100, J 101, J 102, J 103, J 104, J 105, J 106, J 107, J 108, J 109, J 110, J 111, J 112, J 113, J 114, J 115, J 116, J 117, J 118, J 119, J 120, J 121, J 122, J 123, J 124, J 125, J 126, J 127, J 128, J 129, J 130, J 131, J 132, J 133, J 134, J 135, J 136, J 137, J 138, J 139, J 140, J 141, J 142, J 143, J 144, J 145, J 146, J 147, J 148, J 149]) (fun m s H1 => m = E.length - s ∧ s ≤ E.length ∧ H1.get N = some (.row true 27 [Vv eL L, Vv eS S, Vv eE E, Vv eV V]) ∧ N < H1.next ∧ ∀ j, j < s → okE L.length S.length (E.getD j eE.d) = true) E.length 0 rfl ⟨rfl, Nat.zero_le _, by simp (maxSteps := 1000000) (disch := first | exact sd | fail) only [go_sem, Nat.reduceAdd, Nat.reduceSub, Nat.reduceLeDiff, ↓reduceIte, decide_eq_true_eq, if_true, if_false, Bool.false_eq_true, Int.lt_irrefl, implies_true, true_and, and_true, eq_self, and_self, beq_self_eq_true], by simp only [next_push, next_E0]; omega, fun j hj => by omega⟩ ?_
  rintro m s J H1 ⟨rfl, hs1, gN, n1, hall⟩
  by_cases h4 : (s : Int) < E.length
  · have h5 : (s : Int).toNat = s := rfl
    have hd : LimE (E.getD s eE.d) := getDm (by omega) hE
    have hd2 : SmE (E.getD s eE.d) := getDm (by omega) sE
    have hno := hoE s (by omega)
    generalize hx : E.getD s eE.d = a at *
    obtain ⟨_, _, _, dg, ds, _⟩ := hd
    have q1 := p229 (n := (S.length : Int)) (m := a.m) dg hd2.1
    have q2 := p229 (n := (S.length : Int)) (m := a.m) ds hd2.2
    have l1 := dg.1
    have l2 := ds.1
    by_cases f1 : a.f < 0
    · simp (maxSteps := 1000000) (disch := first | exact sd | fail) only [go_sem, Nat.reduceAdd, Nat.reduceSub, Nat.reduceLeDiff, ↓reduceIte, decide_eq_true_eq, if_true, if_false, Bool.false_eq_true, Int.lt_irrefl, implies_true, true_and, and_true, eq_self, and_self, beq_self_eq_true, gN, h4, h5, hx, f1]
      rw [hno (bool_no fun k => by have := okE_iff.1 k; omega)]; exact .rfl
    by_cases f2 : (L.length : Int) ≤ a.f
    · simp (maxSteps := 1000000) (disch := first | exact sd | fail) only [go_sem, Nat.reduceAdd, Nat.reduceSub, Nat.reduceLeDiff, ↓reduceIte, decide_eq_true_eq, if_true, if_false, Bool.false_eq_true, Int.lt_irrefl, implies_true, true_and, and_true, eq_self, and_self, beq_self_eq_true, gN, h4, h5, hx, f1, f2]
      rw [hno (bool_no fun k => by have := okE_iff.1 k; omega)]; exact .rfl
    by_cases f3 : a.t < 0
    · simp (maxSteps := 1000000) (disch := first | exact sd | fail) only [go_sem, Nat.reduceAdd, Nat.reduceSub, Nat.reduceLeDiff, ↓reduceIte, decide_eq_true_eq, if_true, if_false, Bool.false_eq_true, Int.lt_irrefl, implies_true, true_and, and_true, eq_self, and_self, beq_self_eq_true, gN, h4, h5, hx, f1, f2, f3]
      rw [hno (bool_no fun k => by have := okE_iff.1 k; omega)]; exact .rfl
    by_cases f4 : (L.length : Int) ≤ a.t
    · simp (maxSteps := 1000000) (disch := first | exact sd | fail) only [go_sem, Nat.reduceAdd, Nat.reduceSub, Nat.reduceLeDiff, ↓reduceIte, decide_eq_true_eq, if_true, if_false, Bool.false_eq_true, Int.lt_irrefl, implies_true, true_and, and_true, eq_self, and_self, beq_self_eq_true, gN, h4, h5, hx, f1, f2, f3, f4]
      rw [hno (bool_no fun k => by have := okE_iff.1 k; omega)]; exact .rfl
    by_cases f5 : a.m < 0
    · simp (maxSteps := 1000000) (disch := first | exact sd | fail) only [go_sem, Nat.reduceAdd, Nat.reduceSub, Nat.reduceLeDiff, ↓reduceIte, decide_eq_true_eq, if_true, if_false, Bool.false_eq_true, Int.lt_irrefl, implies_true, true_and, and_true, eq_self, and_self, beq_self_eq_true, gN, h4, h5, hx, f1, f2, f3, f4, f5]
      rw [hno (bool_no fun k => by have := okE_iff.1 k; omega)]; exact .rfl
    by_cases f6 : 40 < a.m
    · simp (maxSteps := 1000000) (disch := first | exact sd | fail) only [go_sem, Nat.reduceAdd, Nat.reduceSub, Nat.reduceLeDiff, ↓reduceIte, decide_eq_true_eq, if_true, if_false, Bool.false_eq_true, Int.lt_irrefl, implies_true, true_and, and_true, eq_self, and_self, beq_self_eq_true, gN, h4, h5, hx, f1, f2, f3, f4, f5, f6]
      rw [hno (bool_no fun k => by have := okE_iff.1 k; omega)]; exact .rfl
    by_cases f7 : (a.s.length : Int) = S.length
    rotate_left
    · simp (maxSteps := 1000000) (disch := first | exact sd | fail) only [go_sem, Nat.reduceAdd, Nat.reduceSub, Nat.reduceLeDiff, ↓reduceIte, decide_eq_true_eq, if_true, if_false, Bool.false_eq_true, Int.lt_irrefl, implies_true, true_and, and_true, eq_self, and_self, beq_self_eq_true, gN, h4, h5, hx, f1, f2, f3, f4, f5, f6, f7, ne_eq, not_false_eq_true, not_true_eq_false]
      rw [hno (bool_no fun k => by have := okE_iff.1 k; omega)]; exact .rfl
    simp (maxSteps := 1000000) (disch := first | exact sd | fail) only [go_sem, Nat.reduceAdd, Nat.reduceSub, Nat.reduceLeDiff, ↓reduceIte, decide_eq_true_eq, if_true, if_false, Bool.false_eq_true, Int.lt_irrefl, implies_true, true_and, and_true, eq_self, and_self, beq_self_eq_true, gN, h4, h5, hx, f1, f2, f3, f4, f5, f6, f7, ne_eq, not_false_eq_true, not_true_eq_false]
    refine PC.step (q1) fun m1 j1 => ?_
    try simp only [Heap.next_push, Heap.next_set, Heap.next_kill, next_bump, next_E0] at j1
    cases f8 : okAs a.g S.length a.m with
    | false =>
      simp (maxSteps := 1000000) (disch := first | exact sd | fail) only [go_sem, Nat.reduceAdd, Nat.reduceSub, Nat.reduceLeDiff, ↓reduceIte, decide_eq_true_eq, if_true, if_false, Bool.false_eq_true, Int.lt_irrefl, implies_true, true_and, and_true, eq_self, and_self, beq_self_eq_true, Bool.not_false]
      rw [hno (bool_no fun k => by rw [(okE_iff.1 k).2.2.2.2.2] at f8; cases f8)]; exact .rfl
    | true =>
      simp (maxSteps := 1000000) (disch := first | exact sd | fail) only [go_sem, Nat.reduceAdd, Nat.reduceSub, Nat.reduceLeDiff, ↓reduceIte, decide_eq_true_eq, if_true, if_false, Bool.false_eq_true, Int.lt_irrefl, implies_true, true_and, and_true, eq_self, and_self, beq_self_eq_true, gN, Bool.not_true]
      refine PC.step (q2) fun m2 j2 => ?_
      try simp only [Heap.next_push, Heap.next_set, Heap.next_kill, next_bump, next_E0] at j2
      cases f9 : okAs a.s S.length a.m with
      | false =>
        simp (maxSteps := 1000000) (disch := first | exact sd | fail) only [go_sem, Nat.reduceAdd, Nat.reduceSub, Nat.reduceLeDiff, ↓reduceIte, decide_eq_true_eq, if_true, if_false, Bool.false_eq_true, Int.lt_irrefl, implies_true, true_and, and_true, eq_self, and_self, beq_self_eq_true, Bool.not_false]
        rw [hno (bool_no fun k => by rw [(okE_iff.1 k).2.2.2.2.1] at f9; cases f9)]; exact .rfl
      | true =>
        simp (maxSteps := 1000000) (disch := first | exact sd | fail) only [go_sem, Nat.reduceAdd, Nat.reduceSub, Nat.reduceLeDiff, ↓reduceIte, decide_eq_true_eq, if_true, if_false, Bool.false_eq_true, Int.lt_irrefl, implies_true, true_and, and_true, eq_self, and_self, beq_self_eq_true, Bool.not_true]
        refine IJ_intro (k := E.length - (s + 1)) (by omega) (s + 1) rfl ⟨rfl, by omega, by simp (maxSteps := 1000000) (disch := first | exact sd | fail) only [go_sem, Nat.reduceAdd, Nat.reduceSub, Nat.reduceLeDiff, ↓reduceIte, decide_eq_true_eq, if_true, if_false, Bool.false_eq_true, Int.lt_irrefl, implies_true, true_and, and_true, eq_self, and_self, beq_self_eq_true, gN], by simp only [next_bump, next_push] at j1 j2 ⊢; omega, upto_snoc hall ?_⟩
        rw [hx]
        exact okE_iff.2 ⟨by omega, by omega, by omega, by omega, f9, f8⟩
  simp (maxSteps := 1000000) (disch := first | exact sd | fail) only [go_sem, Nat.reduceAdd, Nat.reduceSub, Nat.reduceLeDiff, ↓reduceIte, decide_eq_true_eq, if_true, if_false, Bool.false_eq_true, Int.lt_irrefl, implies_true, true_and, and_true, eq_self, and_self, beq_self_eq_true, gN, h4]
  have hallE : ∀ j, j < E.length → okE L.length S.length (E.getD j eE.d) = true := fun j hj => hall j (by omega)
  refine aw_loopJ (σ := Nat) (fun s J => [J 0, .pointer (some ⟨N, 0, none⟩), .bool false, .int .i64 S.length, J 4, J 5, .int .i64 s, J 7, J 8, J 9, J 10, J 11, J 12, J 13, J 14, J 15, J 16, J 17, J 18, J 19, J 20, J 21, J 22, J 23, J 24, J 25, J 26, J 27, J 28, J 29, J 30, J 31, J 32, J 33, J 34, J 35, J 36, J 37, J 38, J 39, J 40, J 41, J 42, J 43, J 44, J 45, J 46, J 47, J 48, J 49, J 50, J 51, J 52, J 53, J 54, J 55, J 56, J 57, J 58, J 59, J 60, J 61, J 62, J 63, J 64, J 65, J 66, J 67, J 68, J 69, J 70, J 71, J 72, J 73, J 74, J 75, J 76, J 77, J 78, J 79, J 80, J 81, J 82, J 83, J 84, J 85, J 86, J 87, J 88, J 89, J 90, J 91, J 92, J 93, J 94, J 95, J 96, J 97, J 98, J 99, J 100, J 101, J 102, J 103, J 104, J 105, J 106, J 107, J 108, J 109, J 110, J 111, J 112, J 113, J 114, J 115, J 116, J 117, J 118, J 119, J 120, J 121, J 122, J 123, J 124, J 125, J 126, J 127, J 128, J 129, J 130, J 131, J 132, J 133, J 134, J 135, J 136, J 137, J 138, J 139, J 140, J 141, J 142, J 143, J 144, J 145, J 146, J 147, J 148, J 149]) (fun m s H1 => m = V.length - s ∧ s ≤ V.length ∧ H1.get N = some (.row true 27 [Vv eL L, Vv eS S, Vv eE E, Vv eV V]) ∧ N < H1.next ∧ ∀ j, j < s → okV L.length S.length (V.getD j eV.d) = true) V.length 0 rfl ⟨rfl, Nat.zero_le _, gN, n1, fun j hj => by omega⟩ ?_
  clear hall gN n1
  rintro m s J H1 ⟨rfl, hs1, gN, n1, hall⟩
  by_cases h4 : (s : Int) < V.length
  · have h5 : (s : Int).toNat = s := rfl
    have hd : LimV (V.getD s eV.d) := getDm (by omega) hV
    have hd2 : SmV (V.getD s eV.d) := getDm (by omega) sV
    have hno := hoV s (by omega)
    generalize hx : V.getD s eV.d = a at *
    obtain ⟨_, _, _, dg⟩ := hd
    have q1 := p229 (n := (S.length : Int)) (m := a.m) dg hd2
    have l1 := dg.1
    by_cases f1 : a.l < 0
    · simp (maxSteps := 1000000) (disch := first | exact sd | fail) only [go_sem, Nat.reduceAdd, Nat.reduceSub, Nat.reduceLeDiff, ↓reduceIte, decide_eq_true_eq, if_true, if_false, Bool.false_eq_true, Int.lt_irrefl, implies_true, true_and, and_true, eq_self, and_self, beq_self_eq_true, gN, h4, h5, hx, f1]
      rw [hno (bool_no fun k => by have := okV_iff.1 k; omega)]; exact .rfl
    by_cases f2 : (L.length : Int) ≤ a.l
    · simp (maxSteps := 1000000) (disch := first | exact sd | fail) only [go_sem, Nat.reduceAdd, Nat.reduceSub, Nat.reduceLeDiff, ↓reduceIte, decide_eq_true_eq, if_true, if_false, Bool.false_eq_true, Int.lt_irrefl, implies_true, true_and, and_true, eq_self, and_self, beq_self_eq_true, gN, h4, h5, hx, f1, f2]
      rw [hno (bool_no fun k => by have := okV_iff.1 k; omega)]; exact .rfl
    by_cases f5 : a.m < 0
    · simp (maxSteps := 1000000) (disch := first | exact sd | fail) only [go_sem, Nat.reduceAdd, Nat.reduceSub, Nat.reduceLeDiff, ↓reduceIte, decide_eq_true_eq, if_true, if_false, Bool.false_eq_true, Int.lt_irrefl, implies_true, true_and, and_true, eq_self, and_self, beq_self_eq_true, gN, h4, h5, hx, f1, f2, f5]
      rw [hno (bool_no fun k => by have := okV_iff.1 k; omega)]; exact .rfl
    by_cases f6 : 40 < a.m
    · simp (maxSteps := 1000000) (disch := first | exact sd | fail) only [go_sem, Nat.reduceAdd, Nat.reduceSub, Nat.reduceLeDiff, ↓reduceIte, decide_eq_true_eq, if_true, if_false, Bool.false_eq_true, Int.lt_irrefl, implies_true, true_and, and_true, eq_self, and_self, beq_self_eq_true, gN, h4, h5, hx, f1, f2, f5, f6]
      rw [hno (bool_no fun k => by have := okV_iff.1 k; omega)]; exact .rfl
    simp (maxSteps := 1000000) (disch := first | exact sd | fail) only [go_sem, Nat.reduceAdd, Nat.reduceSub, Nat.reduceLeDiff, ↓reduceIte, decide_eq_true_eq, if_true, if_false, Bool.false_eq_true, Int.lt_irrefl, implies_true, true_and, and_true, eq_self, and_self, beq_self_eq_true, gN, h4, h5, hx, f1, f2, f5, f6]
    refine PC.step (q1) fun m1 j1 => ?_
    try simp only [Heap.next_push, Heap.next_set, Heap.next_kill, next_bump, next_E0] at j1
    cases f8 : okAs a.g S.length a.m with
    | false =>
      simp (maxSteps := 1000000) (disch := first | exact sd | fail) only [go_sem, Nat.reduceAdd, Nat.reduceSub, Nat.reduceLeDiff, ↓reduceIte, decide_eq_true_eq, if_true, if_false, Bool.false_eq_true, Int.lt_irrefl, implies_true, true_and, and_true, eq_self, and_self, beq_self_eq_true, Bool.not_false]
      rw [hno (bool_no fun k => by rw [(okV_iff.1 k).2.2] at f8; cases f8)]; exact .rfl
    | true =>
      simp (maxSteps := 1000000) (disch := first | exact sd | fail) only [go_sem, Nat.reduceAdd, Nat.reduceSub, Nat.reduceLeDiff, ↓reduceIte, decide_eq_true_eq, if_true, if_false, Bool.false_eq_true, Int.lt_irrefl, implies_true, true_and, and_true, eq_self, and_self, beq_self_eq_true, Bool.not_true]
      refine IJ_intro (k := V.length - (s + 1)) (by omega) (s + 1) rfl ⟨rfl, by omega, by simp (maxSteps := 1000000) (disch := first | exact sd | fail) only [go_sem, Nat.reduceAdd, Nat.reduceSub, Nat.reduceLeDiff, ↓reduceIte, decide_eq_true_eq, if_true, if_false, Bool.false_eq_true, Int.lt_irrefl, implies_true, true_and, and_true, eq_self, and_self, beq_self_eq_true, gN], by simp only [next_bump, next_push] at j1 ⊢; omega, upto_snoc hall ?_⟩
      rw [hx]
      exact okV_iff.2 ⟨by omega, by omega, f8⟩
  simp (maxSteps := 1000000) (disch := first | exact sd | fail) only [go_sem, Nat.reduceAdd, Nat.reduceSub, Nat.reduceLeDiff, ↓reduceIte, decide_eq_true_eq, if_true, if_false, Bool.false_eq_true, Int.lt_irrefl, implies_true, true_and, and_true, eq_self, and_self, beq_self_eq_true, gN, h4]
  rw [hyes (by omega) hallE fun j hj => hall j (by omega)]
  exact .rfl
theorem p199 {l : RW} (h : LimW l) (hs : SmW l) : PC Tryz.prog 22 [Wv l] (.bool (okW l)) := by
  have hM : maxLen = 9223372036854775807 := rfl
  obtain ⟨hl, hsl, ⟨he, hE⟩, hv, hV⟩ := h
  obtain ⟨sE, sV⟩ := hs
  obtain ⟨L, S, E, V⟩ := l
  dsimp only at hl hsl he hE hv hV sE sV
  refine PC.of (.cons pu_W .nil) (.ground rfl) fun N hN => ?_
  have hout : ¬ (1 ≤ L.length ∧ L.length ≤ 40 ∧ S.length ≤ 6 ∧ E.length ≤ 200 ∧ V.length ≤ 200) → okW ⟨L, S, E, V⟩ = false := fun h => by unfold okW; dsimp only; rw [decide_eq_false h, Bool.false_and, Bool.false_and]
  have hoE : ∀ s, s < E.length → okE L.length S.length (E.getD s eE.d) = false → okW ⟨L, S, E, V⟩ = false := fun s h1 h2 => by unfold okW; dsimp only; rw [not_all h1 h2, Bool.and_false, Bool.false_and]
  have hoV : ∀ s, s < V.length → okV L.length S.length (V.getD s eV.d) = false → okW ⟨L, S, E, V⟩ = false := fun s h1 h2 => by unfold okW; dsimp only; rw [not_all h1 h2, Bool.and_false]
  have hyes : (1 ≤ L.length ∧ L.length ≤ 40 ∧ S.length ≤ 6 ∧ E.length ≤ 200 ∧ V.length ≤ 200) → (∀ j, j < E.length → okE L.length S.length (E.getD j eE.d) = true) → (∀ j, j < V.length → okV L.length S.length (V.getD j eV.d) = true) → okW ⟨L, S, E, V⟩ = true := fun h1 h2 h3 => by unfold okW; dsimp only; rw [decide_eq_true h1, all_getD h2, all_getD h3]; rfl
  generalize okW ⟨L, S, E, V⟩ = w at *
  unfold Wv
  try dsimp only
  refine ACalls.of_code T.hm (n := 120) Tryz.func22 rfl rfl rfl rfl ?_; simp only [List.replicate_succ, List.replicate_zero, List.cons_append, List.nil_append]
  by_cases c1 : (L.length : Int) < 1
  · simp (maxSteps := 1000000) (disch := first | exact sd | fail) only [go_sem, Nat.reduceAdd, Nat.reduceSub, Nat.reduceLeDiff, ↓reduceIte, decide_eq_true_eq, if_true, if_false, Bool.false_eq_true, Int.lt_irrefl, implies_true, true_and, and_true, eq_self, and_self, beq_self_eq_true, aw_plan (id := 1) plO5_199_1, plO5_199_1, c1]
    rw [hout (by omega)]; exact .rfl
  by_cases c2 : (40 : Int) < L.length
  · simp (maxSteps := 1000000) (disch := first | exact sd | fail) only [go_sem, Nat.reduceAdd, Nat.reduceSub, Nat.reduceLeDiff, ↓reduceIte, decide_eq_true_eq, if_true, if_false, Bool.false_eq_true, Int.lt_irrefl, implies_true, true_and, and_true, eq_self, and_self, beq_self_eq_true, aw_plan (id := 1) plO5_199_1, plO5_199_1, c1, c2]
    rw [hout (by omega)]; exact .rfl
  by_cases c3 : (6 : Int) < S.length
  · simp (maxSteps := 1000000) (disch := first | exact sd | fail) only [go_sem, Nat.reduceAdd, Nat.reduceSub, Nat.reduceLeDiff, ↓reduceIte, decide_eq_true_eq, if_true, if_false, Bool.false_eq_true, Int.lt_irrefl, implies_true, true_and, and_true, eq_self, and_self, beq_self_eq_true, aw_plan (id := 1) plO5_199_1, plO5_199_1, c1, c2, c3]
    rw [hout (by omega)]; exact .rfl
  by_cases k4 : (200 : Int) < E.length
  · simp (maxSteps := 1000000) (disch := first | exact sd | fail) only [go_sem, Nat.reduceAdd, Nat.reduceSub, Nat.reduceLeDiff, ↓reduceIte, decide_eq_true_eq, if_true, if_false, Bool.false_eq_true, Int.lt_irrefl, implies_true, true_and, and_true, eq_self, and_self, beq_self_eq_true, aw_plan (id := 1) plO5_199_1, plO5_199_1, c1, c2, c3, k4]
    rw [hout (by omega)]; exact .rfl
  by_cases c5 : (200 : Int) < V.length
  · simp (maxSteps := 1000000) (disch := first | exact sd | fail) only [go_sem, Nat.reduceAdd, Nat.reduceSub, Nat.reduceLeDiff, ↓reduceIte, decide_eq_true_eq, if_true, if_false, Bool.false_eq_true, Int.lt_irrefl, implies_true, true_and, and_true, eq_self, and_self, beq_self_eq_true, aw_plan (id := 1) plO5_199_1, plO5_199_1, c1, c2, c3, k4, c5]
    rw [hout (by omega)]; exact .rfl
  simp (maxSteps := 1000000) (disch := first | exact sd | fail) only [go_sem, Nat.reduceAdd, Nat.reduceSub, Nat.reduceLeDiff, ↓reduceIte, decide_eq_true_eq, if_true, if_false, Bool.false_eq_true, Int.lt_irrefl, implies_true, true_and, and_true, eq_self, and_self, beq_self_eq_true, aw_plan (id := 1) plO5_199_1, plO5_199_1, c1, c2, c3, k4, c5]
  refine aw_loopJ (σ := Nat) (fun s J => [J 0, .pointer (some ⟨N, 0, none⟩), .bool false, .pointer (some ⟨N + 1, 0, none⟩), .int .i64 S.length, .func (.func 34) ⟨[]⟩ ⟨[.pointer (some ⟨N + 1, 0, none⟩)]⟩, .func (.func 35) ⟨[]⟩ ⟨[]⟩, J 7, J 8, J 9, J 10, J 11, J 12, J 13, J 14, J 15, J 16, J 17, J 18, J 19, J 20, J 21, J 22, J 23, J 24, J 25, J 26, J 27, J 28, J 29, J 30, J 31, J 32, J 33, J 34, J 35, J 36, J 37, J 38, J 39, J 40, Vv eE E, .int .i64 E.length, .int .i64 s, J 44, J 45, J 46, J 47, J 48, J 49, J 50, J 51, J 52, J 53, J 54, J 55, J 56, J 57, J 58, J 59, J 60, J 61, J 62, J 63, J 64, J 65, J 66, J 67, J 68, J 69, J 70, J 71, J 72, J 73, J 74, J 75, J 76, J 77, J 78, J 79, J 80, J 81, J 82, J 83, J 84, J 85, J 86, J 87, J 88, J 89, J 90, J 91, J 92, J 93, J 94, J 95, J 96, J 97, J 98, J 99, J 100, J 101, J 102, J 103, J 104, J 105, J 106, J 107, J 108, J 109, J 110, J 111, J 112, J 113, J 114, J 115, J 116, J 117, J 118, J 119, J 120]) (fun m s H1 => m = E.length - s ∧ s ≤ E.length ∧ H1.get N = some (.row true 27 [Vv eL L, Vv eS S, Vv eE E, Vv eV V]) ∧ H1.get (N + 1) = some (.row true 3 [.int .i64 L.length]) ∧ N + 1 < H1.next ∧ ∀ j, j < s → okE L.length S.length (E.getD j eE.d) = true) E.length 0 rfl ⟨rfl, Nat.zero_le _, by simp (maxSteps := 1000000) (disch := first | exact sd | fail) only [go_sem, Nat.reduceAdd, Nat.reduceSub, Nat.reduceLeDiff, ↓reduceIte, decide_eq_true_eq, if_true, if_false, Bool.false_eq_true, Int.lt_irrefl, implies_true, true_and, and_true, eq_self, and_self, beq_self_eq_true, aw_plan (id := 1) plO5_199_1, plO5_199_1], by simp (maxSteps := 1000000) (disch := first | exact sd | fail) only [go_sem, Nat.reduceAdd, Nat.reduceSub, Nat.reduceLeDiff, ↓reduceIte, decide_eq_true_eq, if_true, if_false, Bool.false_eq_true, Int.lt_irrefl, implies_true, true_and, and_true, eq_self, and_self, beq_self_eq_true, aw_plan (id := 1) plO5_199_1, plO5_199_1], by simp only [next_push, next_set, next_E0]; omega, fun j hj => by omega⟩ ?_
  rintro m s J H1 ⟨rfl, hs1, gN, gP, n1, hall⟩
  by_cases h4 : (s : Int) < E.length
  · have h5 : (s : Int).toNat = s := rfl
    have hd : LimE (E.getD s eE.d) := getDm (by omega) hE
    have hd2 : SmE (E.getD s eE.d) := getDm (by omega) sE
    have hno := hoE s (by omega)
    generalize hx : E.getD s eE.d = a at *
    obtain ⟨_, _, _, dg, ds, _⟩ := hd
    have q1 := p228 (n := (S.length : Int)) (m := a.m) dg hd2.1
    have q2 := p228 (n := (S.length : Int)) (m := a.m) ds hd2.2
    have l1 := dg.1
    have l2 := ds.1
    simp (maxSteps := 1000000) (disch := first | exact sd | fail) only [go_sem, Nat.reduceAdd, Nat.reduceSub, Nat.reduceLeDiff, ↓reduceIte, decide_eq_true_eq, if_true, if_false, Bool.false_eq_true, Int.lt_irrefl, implies_true, true_and, and_true, eq_self, and_self, beq_self_eq_true, aw_plan (id := 1) plO5_199_1, plO5_199_1, gN, gP, h4, h5, hx]
    refine (c226 (o := true) (n := (L.length : Int)) (by simp (maxSteps := 1000000) (disch := first | exact sd | fail) only [go_sem, Nat.reduceAdd, Nat.reduceSub, Nat.reduceLeDiff, ↓reduceIte, decide_eq_true_eq, if_true, if_false, Bool.false_eq_true, Int.lt_irrefl, implies_true, true_and, and_true, eq_self, and_self, beq_self_eq_true, aw_plan (id := 1) plO5_199_1, plO5_199_1, gP])).mono ?_
    rintro _ _ ⟨rfl, rfl⟩
    cases f1 : decide (0 ≤ a.f ∧ a.f < L.length) with
    | false =>
      simp (maxSteps := 1000000) (disch := first | exact sd | fail) only [go_sem, Nat.reduceAdd, Nat.reduceSub, Nat.reduceLeDiff, ↓reduceIte, decide_eq_true_eq, if_true, if_false, Bool.false_eq_true, Int.lt_irrefl, implies_true, true_and, and_true, eq_self, and_self, beq_self_eq_true, aw_plan (id := 1) plO5_199_1, plO5_199_1, Bool.not_false]
      rw [hno (by simp only [okE, f1, Bool.false_and])]; exact .rfl
    | true =>
    simp (maxSteps := 1000000) (disch := first | exact sd | fail) only [go_sem, Nat.reduceAdd, Nat.reduceSub, Nat.reduceLeDiff, ↓reduceIte, decide_eq_true_eq, if_true, if_false, Bool.false_eq_true, Int.lt_irrefl, implies_true, true_and, and_true, eq_self, and_self, beq_self_eq_true, aw_plan (id := 1) plO5_199_1, plO5_199_1, gN, gP, Bool.not_true]
    refine (c226 (o := true) (n := (L.length : Int)) (by simp (maxSteps := 1000000) (disch := first | exact sd | fail) only [go_sem, Nat.reduceAdd, Nat.reduceSub, Nat.reduceLeDiff, ↓reduceIte, decide_eq_true_eq, if_true, if_false, Bool.false_eq_true, Int.lt_irrefl, implies_true, true_and, and_true, eq_self, and_self, beq_self_eq_true, aw_plan (id := 1) plO5_199_1, plO5_199_1, gP])).mono ?_
    rintro _ _ ⟨rfl, rfl⟩
    cases f2 : decide (0 ≤ a.t ∧ a.t < L.length) with
    | false =>
      simp (maxSteps := 1000000) (disch := first | exact sd | fail) only [go_sem, Nat.reduceAdd, Nat.reduceSub, Nat.reduceLeDiff, ↓reduceIte, decide_eq_true_eq, if_true, if_false, Bool.false_eq_true, Int.lt_irrefl, implies_true, true_and, and_true, eq_self, and_self, beq_self_eq_true, aw_plan (id := 1) plO5_199_1, plO5_199_1, Bool.not_false]
      rw [hno (by simp only [okE, f2, Bool.and_false, Bool.false_and])]; exact .rfl
    | true =>
    simp (maxSteps := 1000000) (disch := first | exact sd | fail) only [go_sem, Nat.reduceAdd, Nat.reduceSub, Nat.reduceLeDiff, ↓reduceIte, decide_eq_true_eq, if_true, if_false, Bool.false_eq_true, Int.lt_irrefl, implies_true, true_and, and_true, eq_self, and_self, beq_self_eq_true, aw_plan (id := 1) plO5_199_1, plO5_199_1, gN, gP, Bool.not_true]
    refine PC.step ((p227 (m := a.m))) fun m1 j1 => ?_
    try simp only [Heap.next_push, Heap.next_set, Heap.next_kill, next_bump, next_E0] at j1
    cases f3 : decide (0 ≤ a.m ∧ a.m ≤ 40) with
    | false =>
      simp (maxSteps := 1000000) (disch := first | exact sd | fail) only [go_sem, Nat.reduceAdd, Nat.reduceSub, Nat.reduceLeDiff, ↓reduceIte, decide_eq_true_eq, if_true, if_false, Bool.false_eq_true, Int.lt_irrefl, implies_true, true_and, and_true, eq_self, and_self, beq_self_eq_true, aw_plan (id := 1) plO5_199_1, plO5_199_1, Bool.not_false]
      rw [hno (by simp only [okE, f3, Bool.and_false, Bool.false_and])]; exact .rfl
    | true =>
    by_cases f7 : (a.s.length : Int) = S.length
    rotate_left
    · simp (maxSteps := 1000000) (disch := first | exact sd | fail) only [go_sem, Nat.reduceAdd, Nat.reduceSub, Nat.reduceLeDiff, ↓reduceIte, decide_eq_true_eq, if_true, if_false, Bool.false_eq_true, Int.lt_irrefl, implies_true, true_and, and_true, eq_self, and_self, beq_self_eq_true, aw_plan (id := 1) plO5_199_1, plO5_199_1, gN, gP, f7, ne_eq, not_false_eq_true, not_true_eq_false, Bool.not_true]
      rw [hno (bool_no fun k => by have := okE_iff.1 k; omega)]; exact .rfl
    simp (maxSteps := 1000000) (disch := first | exact sd | fail) only [go_sem, Nat.reduceAdd, Nat.reduceSub, Nat.reduceLeDiff, ↓reduceIte, decide_eq_true_eq, if_true, if_false, Bool.false_eq_true, Int.lt_irrefl, implies_true, true_and, and_true, eq_self, and_self, beq_self_eq_true, aw_plan (id := 1) plO5_199_1, plO5_199_1, gN, gP, f7, ne_eq, not_false_eq_true, not_true_eq_false, Bool.not_true]
    refine PC.step (q2) fun m2 j2 => ?_
    try simp only [Heap.next_push, Heap.next_set, Heap.next_kill, next_bump, next_E0] at j2
    cases f9 : okAs a.s S.length a.m with
    | false =>
      simp (maxSteps := 1000000) (disch := first | exact sd | fail) only [go_sem, Nat.reduceAdd, Nat.reduceSub, Nat.reduceLeDiff, ↓reduceIte, decide_eq_true_eq, if_true, if_false, Bool.false_eq_true, Int.lt_irrefl, implies_true, true_and, and_true, eq_self, and_self, beq_self_eq_true, aw_plan (id := 1) plO5_199_1, plO5_199_1, Bool.not_false]
      rw [hno (bool_no fun k => by rw [(okE_iff.1 k).2.2.2.2.1] at f9; cases f9)]; exact .rfl
    | true =>
    simp (maxSteps := 1000000) (disch := first | exact sd | fail) only [go_sem, Nat.reduceAdd, Nat.reduceSub, Nat.reduceLeDiff, ↓reduceIte, decide_eq_true_eq, if_true, if_false, Bool.false_eq_true, Int.lt_irrefl, implies_true, true_and, and_true, eq_self, and_self, beq_self_eq_true, aw_plan (id := 1) plO5_199_1, plO5_199_1, gN, gP, Bool.not_true]
    refine PC.step (q1) fun m3 j3 => ?_
    try simp only [Heap.next_push, Heap.next_set, Heap.next_kill, next_bump, next_E0] at j3
    cases f8 : okAs a.g S.length a.m with
    | false =>
      simp (maxSteps := 1000000) (disch := first | exact sd | fail) only [go_sem, Nat.reduceAdd, Nat.reduceSub, Nat.reduceLeDiff, ↓reduceIte, decide_eq_true_eq, if_true, if_false, Bool.false_eq_true, Int.lt_irrefl, implies_true, true_and, and_true, eq_self, and_self, beq_self_eq_true, aw_plan (id := 1) plO5_199_1, plO5_199_1, Bool.not_false]
      rw [hno (bool_no fun k => by rw [(okE_iff.1 k).2.2.2.2.2] at f8; cases f8)]; exact .rfl
    | true =>
    simp (maxSteps := 1000000) (disch := first | exact sd | fail) only [go_sem, Nat.reduceAdd, Nat.reduceSub, Nat.reduceLeDiff, ↓reduceIte, decide_eq_true_eq, if_true, if_false, Bool.false_eq_true, Int.lt_irrefl, implies_true, true_and, and_true, eq_self, and_self, beq_self_eq_true, aw_plan (id := 1) plO5_199_1, plO5_199_1, Bool.not_true]
    refine IJ_intro (k := E.length - (s + 1)) (by omega) (s + 1) rfl ⟨rfl, by omega, by simp (maxSteps := 1000000) (disch := first | exact sd | fail) only [go_sem, Nat.reduceAdd, Nat.reduceSub, Nat.reduceLeDiff, ↓reduceIte, decide_eq_true_eq, if_true, if_false, Bool.false_eq_true, Int.lt_irrefl, implies_true, true_and, and_true, eq_self, and_self, beq_self_eq_true, aw_plan (id := 1) plO5_199_1, plO5_199_1, gN], by simp (maxSteps := 1000000) (disch := first | exact sd | fail) only [go_sem, Nat.reduceAdd, Nat.reduceSub, Nat.reduceLeDiff, ↓reduceIte, decide_eq_true_eq, if_true, if_false, Bool.false_eq_true, Int.lt_irrefl, implies_true, true_and, and_true, eq_self, and_self, beq_self_eq_true, aw_plan (id := 1) plO5_199_1, plO5_199_1, gP], by simp only [next_bump, next_push] at j1 j2 j3 ⊢; omega, upto_snoc hall ?_⟩
    rw [hx]
    exact okE_iff.2 ⟨of_decide_eq_true f1, of_decide_eq_true f2, of_decide_eq_true f3, by omega, f9, f8⟩
  simp (maxSteps := 1000000) (disch := first | exact sd | fail) only [go_sem, Nat.reduceAdd, Nat.reduceSub, Nat.reduceLeDiff, ↓reduceIte, decide_eq_true_eq, if_true, if_false, Bool.false_eq_true, Int.lt_irrefl, implies_true, true_and, and_true, eq_self, and_self, beq_self_eq_true, aw_plan (id := 1) plO5_199_1, plO5_199_1, gN, gP, h4]
  have hallE : ∀ j, j < E.length → okE L.length S.length (E.getD j eE.d) = true := fun j hj => hall j (by omega)
  refine aw_loopJ (σ := Nat) (fun s J => [J 0, .pointer (some ⟨N, 0, none⟩), .bool false, .pointer (some ⟨N + 1, 0, none⟩), .int .i64 S.length, .func (.func 34) ⟨[]⟩ ⟨[.pointer (some ⟨N + 1, 0, none⟩)]⟩, .func (.func 35) ⟨[]⟩ ⟨[]⟩, J 7, J 8, J 9, J 10, J 11, J 12, J 13, J 14, J 15, J 16, J 17, J 18, J 19, J 20, J 21, J 22, J 23, J 24, J 25, J 26, J 27, J 28, J 29, J 30, J 31, J 32, J 33, J 34, J 35, J 36, J 37, J 38, J 39, J 40, J 41, J 42, J 43, J 44, J 45, J 46, J 47, J 48, J 49, J 50, J 51, J 52, J 53, J 54, J 55, J 56, J 57, J 58, J 59, J 60, J 61, J 62, J 63, J 64, J 65, J 66, J 67, J 68, J 69, J 70, J 71, J 72, J 73, J 74, J 75, J 76, J 77, J 78, J 79, J 80, J 81, J 82, J 83, J 84, J 85, J 86, J 87, J 88, J 89, J 90, J 91, J 92, Vv eV V, .int .i64 V.length, .int .i64 s, J 96, J 97, J 98, J 99, J 100, J 101, J 102, J 103, J 104, J 105, J 106, J 107, J 108, J 109, J 110, J 111, J 112, J 113, J 114, J 115, J 116, J 117, J 118, J 119, J 120]) (fun m s H1 => m = V.length - s ∧ s ≤ V.length ∧ H1.get N = some (.row true 27 [Vv eL L, Vv eS S, Vv eE E, Vv eV V]) ∧ H1.get (N + 1) = some (.row true 3 [.int .i64 L.length]) ∧ N + 1 < H1.next ∧ ∀ j, j < s → okV L.length S.length (V.getD j eV.d) = true) V.length 0 rfl ⟨rfl, Nat.zero_le _, gN, gP, n1, fun j hj => by omega⟩ ?_
  clear hall gN gP n1
  rintro m s J H1 ⟨rfl, hs1, gN, gP, n1, hall⟩
  by_cases h4 : (s : Int) < V.length
  · have h5 : (s : Int).toNat = s := rfl
    have hd : LimV (V.getD s eV.d) := getDm (by omega) hV
    have hd2 : SmV (V.getD s eV.d) := getDm (by omega) sV
    have hno := hoV s (by omega)
    generalize hx : V.getD s eV.d = a at *
    obtain ⟨_, _, _, dg⟩ := hd
    have q1 := p228 (n := (S.length : Int)) (m := a.m) dg hd2
    have l1 := dg.1
    simp (maxSteps := 1000000) (disch := first | exact sd | fail) only [go_sem, Nat.reduceAdd, Nat.reduceSub, Nat.reduceLeDiff, ↓reduceIte, decide_eq_true_eq, if_true, if_false, Bool.false_eq_true, Int.lt_irrefl, implies_true, true_and, and_true, eq_self, and_self, beq_self_eq_true, aw_plan (id := 1) plO5_199_1, plO5_199_1, gN, gP, h4, h5, hx]
    refine (c226 (o := true) (n := (L.length : Int)) (by simp (maxSteps := 1000000) (disch := first | exact sd | fail) only [go_sem, Nat.reduceAdd, Nat.reduceSub, Nat.reduceLeDiff, ↓reduceIte, decide_eq_true_eq, if_true, if_false, Bool.false_eq_true, Int.lt_irrefl, implies_true, true_and, and_true, eq_self, and_self, beq_self_eq_true, aw_plan (id := 1) plO5_199_1, plO5_199_1, gP])).mono ?_
    rintro _ _ ⟨rfl, rfl⟩
    cases f1 : decide (0 ≤ a.l ∧ a.l < L.length) with
    | false =>
      simp (maxSteps := 1000000) (disch := first | exact sd | fail) only [go_sem, Nat.reduceAdd, Nat.reduceSub, Nat.reduceLeDiff, ↓reduceIte, decide_eq_true_eq, if_true, if_false, Bool.false_eq_true, Int.lt_irrefl, implies_true, true_and, and_true, eq_self, and_self, beq_self_eq_true, aw_plan (id := 1) plO5_199_1, plO5_199_1, Bool.not_false]
      rw [hno (by simp only [okV, f1, Bool.false_and])]; exact .rfl
    | true =>
    simp (maxSteps := 1000000) (disch := first | exact sd | fail) only [go_sem, Nat.reduceAdd, Nat.reduceSub, Nat.reduceLeDiff, ↓reduceIte, decide_eq_true_eq, if_true, if_false, Bool.false_eq_true, Int.lt_irrefl, implies_true, true_and, and_true, eq_self, and_self, beq_self_eq_true, aw_plan (id := 1) plO5_199_1, plO5_199_1, gN, gP, Bool.not_true]
    refine PC.step ((p227 (m := a.m))) fun m1 j1 => ?_
    try simp only [Heap.next_push, Heap.next_set, Heap.next_kill, next_bump, next_E0] at j1
    cases f3 : decide (0 ≤ a.m ∧ a.m ≤ 40) with
    | false =>
      simp (maxSteps := 1000000) (disch := first | exact sd | fail) only [go_sem, Nat.reduceAdd, Nat.reduceSub, Nat.reduceLeDiff, ↓reduceIte, decide_eq_true_eq, if_true, if_false, Bool.false_eq_true, Int.lt_irrefl, implies_true, true_and, and_true, eq_self, and_self, beq_self_eq_true, aw_plan (id := 1) plO5_199_1, plO5_199_1, Bool.not_false]
      rw [hno (by simp only [okV, f3, Bool.and_false, Bool.false_and])]; exact .rfl
    | true =>
    simp (maxSteps := 1000000) (disch := first | exact sd | fail) only [go_sem, Nat.reduceAdd, Nat.reduceSub, Nat.reduceLeDiff, ↓reduceIte, decide_eq_true_eq, if_true, if_false, Bool.false_eq_true, Int.lt_irrefl, implies_true, true_and, and_true, eq_self, and_self, beq_self_eq_true, aw_plan (id := 1) plO5_199_1, plO5_199_1, gN, gP, Bool.not_true]
    refine PC.step (q1) fun m3 j3 => ?_
    try simp only [Heap.next_push, Heap.next_set, Heap.next_kill, next_bump, next_E0] at j3
    cases f8 : okAs a.g S.length a.m with
    | false =>
      simp (maxSteps := 1000000) (disch := first | exact sd | fail) only [go_sem, Nat.reduceAdd, Nat.reduceSub, Nat.reduceLeDiff, ↓reduceIte, decide_eq_true_eq, if_true, if_false, Bool.false_eq_true, Int.lt_irrefl, implies_true, true_and, and_true, eq_self, and_self, beq_self_eq_true, aw_plan (id := 1) plO5_199_1, plO5_199_1, Bool.not_false]
      rw [hno (bool_no fun k => by rw [(okV_iff.1 k).2.2] at f8; cases f8)]; exact .rfl
    | true =>
    simp (maxSteps := 1000000) (disch := first | exact sd | fail) only [go_sem, Nat.reduceAdd, Nat.reduceSub, Nat.reduceLeDiff, ↓reduceIte, decide_eq_true_eq, if_true, if_false, Bool.false_eq_true, Int.lt_irrefl, implies_true, true_and, and_true, eq_self, and_self, beq_self_eq_true, aw_plan (id := 1) plO5_199_1, plO5_199_1, Bool.not_true]
    refine IJ_intro (k := V.length - (s + 1)) (by omega) (s + 1) rfl ⟨rfl, by omega, by simp (maxSteps := 1000000) (disch := first | exact sd | fail) only [go_sem, Nat.reduceAdd, Nat.reduceSub, Nat.reduceLeDiff, ↓reduceIte, decide_eq_true_eq, if_true, if_false, Bool.false_eq_true, Int.lt_irrefl, implies_true, true_and, and_true, eq_self, and_self, beq_self_eq_true, aw_plan (id := 1) plO5_199_1, plO5_199_1, gN], by simp (maxSteps := 1000000) (disch := first | exact sd | fail) only [go_sem, Nat.reduceAdd, Nat.reduceSub, Nat.reduceLeDiff, ↓reduceIte, decide_eq_true_eq, if_true, if_false, Bool.false_eq_true, Int.lt_irrefl, implies_true, true_and, and_true, eq_self, and_self, beq_self_eq_true, aw_plan (id := 1) plO5_199_1, plO5_199_1, gP], by simp only [next_bump, next_push] at j1 j3 ⊢; omega, upto_snoc hall ?_⟩
    rw [hx]
    exact okV_iff.2 ⟨of_decide_eq_true f1, of_decide_eq_true f3, f8⟩
  simp (maxSteps := 1000000) (disch := first | exact sd | fail) only [go_sem, Nat.reduceAdd, Nat.reduceSub, Nat.reduceLeDiff, ↓reduceIte, decide_eq_true_eq, if_true, if_false, Bool.false_eq_true, Int.lt_irrefl, implies_true, true_and, and_true, eq_self, and_self, beq_self_eq_true, aw_plan (id := 1) plO5_199_1, plO5_199_1, h4]
  rw [hyes (by omega) hallE fun j hj => hall j (by omega)]
  exact .rfl
end Go.Abs
