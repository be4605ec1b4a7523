/- Lowered programs: what is great; which are right. -/
import Derived.Test.YtboekagofficpaaGreatO1
set_option linter.unusedVariables false
set_option linter.unusedSimpArgs false
namespace Go.Abs
open Go Go.Proofs
set_option maxRecDepth 100000
set_option maxHeartbeats 4000000
theorem getDm {α : Type} {l : List α} {j : Nat} {d : α} {P : α → Prop} (hj : j < l.length) (h : ∀ a ∈ l, P a) : P (l.getD j d) := by
  rw [List.getD_eq_getElem?_getD, List.getElem?_eq_getElem hj]
  exact h _ (List.getElem_mem hj)
theorem of_getD {α : Type} {l : List α} {d : α} {P : α → Prop} (h : ∀ j, j < l.length → P (l.getD j d)) : ∀ a ∈ l, P a := by
  intro a ha
  obtain ⟨j, hj, rfl⟩ := List.getElem_of_mem ha
  have := h j hj
  rw [List.getD_eq_getElem?_getD, List.getElem?_eq_getElem hj] at this
  exact this
theorem all_getD {α : Type} {l : List α} {d : α} {p : α → Bool} (h : ∀ j, j < l.length → p (l.getD j d) = true) : l.all p = true := List.all_eq_true.2 (of_getD h)
theorem not_all {α : Type} {l : List α} {d : α} {p : α → Bool} {j : Nat} (hj : j < l.length) (h : p (l.getD j d) = false) : l.all p = false := by
  rw [Bool.eq_false_iff]
  intro k
  have := getDm (d := d) hj (List.all_eq_true.1 k)
  rw [h] at this; cases this
theorem upto_snoc {P : Nat → Prop} {s : Nat} (h : ∀ j, j < s → P j) (hs : P s) : ∀ j, j < s + 1 → P j := fun j hj => by
  rcases Nat.lt_or_ge j s with k | k
  · exact h j k
  · have : j = s := by omega
    subst this; exact hs
/-! ### great -/
def SmI (a : RI) : Prop := a.l.length ≤ 40
def SmA (a : RA) : Prop := a.x.length ≤ 60 ∧ a.w.length ≤ 60 ∧ SmI a.k ∧ (∀ i ∈ a.x, SmI i) ∧ ∀ i ∈ a.w, SmI i
theorem p40g {l : List RI} (h : LimIs l) : PK Tryz.prog 26 [Vv eI l] fun r => ∃ b, r = .bool b ∧ (b = false → ∀ i ∈ l, SmI i) := by
  have hM : maxLen = 9223372036854775807 := rfl
  have hl := h.1
  refine PC.of' (.cons pu_Is .nil) fun N hN => ?_
  refine ACalls.of_code T.hm (n := 16) Tryz.func26 rfl rfl rfl rfl ?_; simp only [List.replicate_succ, List.replicate_zero, List.cons_append, List.nil_append]
  simp (maxSteps := 1000000) (disch := first | exact sd | fail) only [go_sem, Nat.reduceAdd, Nat.reduceSub, Nat.reduceLeDiff, ↓reduceIte, decide_eq_true_eq, if_true, if_false, Bool.false_eq_true, Int.lt_irrefl, implies_true, true_and, and_true, eq_self, and_self, beq_self_eq_true]
  refine aw_loopJ (σ := Nat) (fun s J => [Vv eI l, J 1, .bool false, .int .i64 s, J 4, J 5, J 6, J 7, J 8, J 9, J 10, J 11, J 12, J 13, J 14, J 15, J 16]) (fun m s H1 => m = l.length - s ∧ s ≤ l.length ∧ ∀ j, j < s → SmI (l.getD j eI.d)) l.length 0 rfl ⟨rfl, Nat.zero_le _, fun j hj => by omega⟩ ?_
  rintro m s J H1 ⟨rfl, hs, hall⟩
  by_cases h4 : (s : Int) < l.length
  · have h5 : (s : Int).toNat = s := rfl
    have hd : LimI (l.getD s eI.d) := getDm (by omega) h.2
    have hl2 := hd.2
    by_cases h6 : (40 : Int) < (l.getD s eI.d).l.length
    · simp (maxSteps := 1000000) (disch := first | exact sd | fail) only [go_sem, Nat.reduceAdd, Nat.reduceSub, Nat.reduceLeDiff, ↓reduceIte, decide_eq_true_eq, if_true, if_false, Bool.false_eq_true, Int.lt_irrefl, implies_true, true_and, and_true, eq_self, and_self, beq_self_eq_true, h4, h5, h6]
      exact ⟨_, .rfl, .ground rfl, true, rfl, fun h => by cases h⟩
    · simp (maxSteps := 1000000) (disch := first | exact sd | fail) only [go_sem, Nat.reduceAdd, Nat.reduceSub, Nat.reduceLeDiff, ↓reduceIte, decide_eq_true_eq, if_true, if_false, Bool.false_eq_true, Int.lt_irrefl, implies_true, true_and, and_true, eq_self, and_self, beq_self_eq_true, h4, h5, h6]
      exact IJ_intro (k := l.length - (s + 1)) (by omega) (s + 1) rfl ⟨rfl, by omega, upto_snoc hall (by unfold SmI; omega)⟩
  · simp (maxSteps := 1000000) (disch := first | exact sd | fail) only [go_sem, Nat.reduceAdd, Nat.reduceSub, Nat.reduceLeDiff, ↓reduceIte, decide_eq_true_eq, if_true, if_false, Bool.false_eq_true, Int.lt_irrefl, implies_true, true_and, and_true, eq_self, and_self, beq_self_eq_true, h4]
    exact ⟨_, .rfl, .ground rfl, false, rfl, fun _ => of_getD fun j hj => hall j (by omega)⟩
theorem p198 {l : List RA} (h : LimAs l) : PK Tryz.prog 19 [Vv eA l] fun r => ∃ b, r = .bool b ∧ (b = false → ∀ a ∈ l, SmA a) := by
  have hM : maxLen = 9223372036854775807 := rfl
  have hl := h.1
  refine PC.of' (.cons pu_As .nil) fun N hN => ?_
  refine ACalls.of_code T.hm (n := 50) Tryz.func19 rfl rfl rfl rfl ?_; simp only [List.replicate_succ, List.replicate_zero, List.cons_append, List.nil_append]
  simp (maxSteps := 1000000) (disch := first | exact sd | fail) only [go_sem, Nat.reduceAdd, Nat.reduceSub, Nat.reduceLeDiff, ↓reduceIte, decide_eq_true_eq, if_true, if_false, Bool.false_eq_true, Int.lt_irrefl, implies_true, true_and, and_true, eq_self, and_self, beq_self_eq_true]
  refine aw_loopJ (σ := Nat) (fun s J => [Vv eA l, J 1, .bool false, .int .i64 s, J 4, J 5, J 6, J 7, J 8, J 9, J 10, J 11, J 12, J 13, J 14, J 15, J 16, J 17, J 18, J 19, J 20, J 21, J 22, J 23, J 24, J 25, J 26, J 27, J 28, J 29, J 30, J 31, J 32, J 33, J 34, J 35, J 36, J 37, J 38, J 39, J 40, J 41, J 42, J 43, J 44, J 45, J 46, J 47, J 48, J 49, J 50]) (fun m s H1 => m = l.length - s ∧ s ≤ l.length ∧ 0 < H1.next ∧ ∀ j, j < s → SmA (l.getD j eA.d)) l.length 0 rfl ⟨rfl, Nat.zero_le _, hN, fun j hj => by omega⟩ ?_
  rintro m s J H1 ⟨rfl, hs, h0, hall⟩
  by_cases h4 : (s : Int) < l.length
  · have h5 : (s : Int).toNat = s := rfl
    have hd : LimA (l.getD s eA.d) := getDm (by omega) h.2
    generalize he : l.getD s eA.d = a at *
    have l1 := hd.1.1
    have l2 := hd.2.1.1
    by_cases c1 : (60 : Int) < a.x.length
    · simp (maxSteps := 1000000) (disch := first | exact sd | fail) only [go_sem, Nat.reduceAdd, Nat.reduceSub, Nat.reduceLeDiff, ↓reduceIte, decide_eq_true_eq, if_true, if_false, Bool.false_eq_true, Int.lt_irrefl, implies_true, true_and, and_true, eq_self, and_self, beq_self_eq_true, h4, h5, he, c1]
      exact ⟨_, .rfl, .ground rfl, true, rfl, fun h => by cases h⟩
    by_cases c2 : (60 : Int) < a.w.length
    · simp (maxSteps := 1000000) (disch := first | exact sd | fail) only [go_sem, Nat.reduceAdd, Nat.reduceSub, Nat.reduceLeDiff, ↓reduceIte, decide_eq_true_eq, if_true, if_false, Bool.false_eq_true, Int.lt_irrefl, implies_true, true_and, and_true, eq_self, and_self, beq_self_eq_true, h4, h5, he, c1, c2]
      exact ⟨_, .rfl, .ground rfl, true, rfl, fun h => by cases h⟩
    simp (maxSteps := 1000000) (disch := first | exact sd | fail) only [go_sem, Nat.reduceAdd, Nat.reduceSub, Nat.reduceLeDiff, ↓reduceIte, decide_eq_true_eq, if_true, if_false, Bool.false_eq_true, Int.lt_irrefl, implies_true, true_and, and_true, eq_self, and_self, beq_self_eq_true, h4, h5, he, c1, c2]
    generalize hH : (Heap.push _ (AObj.row true 72 _)) = H2
    have gV : H2.get H1.next = some (.row true 72 [.bool a.k.neg, Vv eU a.k.l]) := by rw [← hH]; exact get_push_self _ _
    have hN2 : H1.next < H2.next := by rw [← hH]; simp only [next_push]; omega
    have r1 : FzRel Tryz.prog H2 (Vv eI [a.k]) (.slice (some ⟨H1.next, 0, none⟩) 1 1) := .sl (es := 2) (n := 1) (by decide) (Sl.row (off := 0) gV hN2 (.inr T.s24) (.inr ⟨Nat.le_refl _, by decide⟩) (Nat.le_refl 2)) .refl
    refine PK.peekU (p40g (l := [a.k]) ⟨by show 1 ≤ _; omega, fun i hi => by rw [List.mem_singleton.1 hi]; exact hd.2.2⟩) (fun r ⟨d, e, _⟩ => by rw [e]; rfl) (.cons r1 .nil) ?_
    rintro _ ⟨b1, rfl, hb1⟩
    cases b1 with
    | true =>
      simp (maxSteps := 1000000) (disch := first | exact sd | fail) only [go_sem, Nat.reduceAdd, Nat.reduceSub, Nat.reduceLeDiff, ↓reduceIte, decide_eq_true_eq, if_true, if_false, Bool.false_eq_true, Int.lt_irrefl, implies_true, true_and, and_true, eq_self, and_self, beq_self_eq_true]
      exact ⟨_, .rfl, .ground rfl, true, rfl, fun h => by cases h⟩
    | false =>
      simp (maxSteps := 1000000) (disch := first | exact sd | fail) only [go_sem, Nat.reduceAdd, Nat.reduceSub, Nat.reduceLeDiff, ↓reduceIte, decide_eq_true_eq, if_true, if_false, Bool.false_eq_true, Int.lt_irrefl, implies_true, true_and, and_true, eq_self, and_self, beq_self_eq_true, h4, h5, he]
      refine PK.step (p40g hd.1) ?_
      rintro _ m1 ⟨b2, rfl, hb2⟩ j1
      cases b2 with
      | true =>
        simp (maxSteps := 1000000) (disch := first | exact sd | fail) only [go_sem, Nat.reduceAdd, Nat.reduceSub, Nat.reduceLeDiff, ↓reduceIte, decide_eq_true_eq, if_true, if_false, Bool.false_eq_true, Int.lt_irrefl, implies_true, true_and, and_true, eq_self, and_self, beq_self_eq_true]
        exact ⟨_, .rfl, .ground rfl, true, rfl, fun h => by cases h⟩
      | false =>
        simp (maxSteps := 1000000) (disch := first | exact sd | fail) only [go_sem, Nat.reduceAdd, Nat.reduceSub, Nat.reduceLeDiff, ↓reduceIte, decide_eq_true_eq, if_true, if_false, Bool.false_eq_true, Int.lt_irrefl, implies_true, true_and, and_true, eq_self, and_self, beq_self_eq_true, h4, h5, he]
        refine PK.step (p40g hd.2.1) ?_
        rintro _ m2 ⟨b3, rfl, hb3⟩ j2
        cases b3 with
        | true =>
          simp (maxSteps := 1000000) (disch := first | exact sd | fail) only [go_sem, Nat.reduceAdd, Nat.reduceSub, Nat.reduceLeDiff, ↓reduceIte, decide_eq_true_eq, if_true, if_false, Bool.false_eq_true, Int.lt_irrefl, implies_true, true_and, and_true, eq_self, and_self, beq_self_eq_true]
          exact ⟨_, .rfl, .ground rfl, true, rfl, fun h => by cases h⟩
        | false =>
          simp (maxSteps := 1000000) (disch := first | exact sd | fail) only [go_sem, Nat.reduceAdd, Nat.reduceSub, Nat.reduceLeDiff, ↓reduceIte, decide_eq_true_eq, if_true, if_false, Bool.false_eq_true, Int.lt_irrefl, implies_true, true_and, and_true, eq_self, and_self, beq_self_eq_true]
          refine IJ_intro (k := l.length - (s + 1)) (by omega) (s + 1) rfl ⟨rfl, by omega, by simp only [next_bump] at j2 ⊢; omega, upto_snoc hall ?_⟩
          rw [he]
          exact ⟨by omega, by omega, hb1 rfl _ (List.mem_singleton.2 rfl), hb2 rfl, hb3 rfl⟩
  · simp (maxSteps := 1000000) (disch := first | exact sd | fail) only [go_sem, Nat.reduceAdd, Nat.reduceSub, Nat.reduceLeDiff, ↓reduceIte, decide_eq_true_eq, if_true, if_false, Bool.false_eq_true, Int.lt_irrefl, implies_true, true_and, and_true, eq_self, and_self, beq_self_eq_true, h4]
    exact ⟨_, .rfl, .ground rfl, false, rfl, fun _ => of_getD fun j hj => hall j (by omega)⟩
def SmE (e : RE) : Prop := (∀ a ∈ e.g, SmA a) ∧ ∀ a ∈ e.s, SmA a
def SmV (e : RV) : Prop := ∀ a ∈ e.g, SmA a
def SmW (l : RW) : Prop := (∀ e ∈ l.edges, SmE e) ∧ ∀ e ∈ l.viols, SmV e
theorem p133 {l : RW} (h : LimW l) : PK Tryz.prog 9 [Wv l] fun r => ∃ b, r = .bool b ∧ (b = false → SmW l) := by
  have hM : maxLen = 9223372036854775807 := rfl
  obtain ⟨hl, hs, ⟨he, hE⟩, hv, hV⟩ := h
  obtain ⟨L, S, E, V⟩ := l
  dsimp only at hl hs he hE hv hV
  refine PC.of' (.cons pu_W .nil) fun N hN => ?_
  unfold Wv
  refine ACalls.of_code T.hm (n := 93) Tryz.func9 rfl rfl rfl rfl ?_; simp only [List.replicate_succ, List.replicate_zero, List.cons_append, List.nil_append]
  try dsimp only
  by_cases c1 : (60 : Int) < L.length
  · simp (maxSteps := 1000000) (disch := first | exact sd | fail) only [go_sem, Nat.reduceAdd, Nat.reduceSub, Nat.reduceLeDiff, ↓reduceIte, decide_eq_true_eq, if_true, if_false, Bool.false_eq_true, Int.lt_irrefl, implies_true, true_and, and_true, eq_self, and_self, beq_self_eq_true, c1]
    exact ⟨_, .rfl, .ground rfl, true, rfl, fun h => by cases h⟩
  by_cases c2 : (10 : Int) < S.length
  · simp (maxSteps := 1000000) (disch := first | exact sd | fail) only [go_sem, Nat.reduceAdd, Nat.reduceSub, Nat.reduceLeDiff, ↓reduceIte, decide_eq_true_eq, if_true, if_false, Bool.false_eq_true, Int.lt_irrefl, implies_true, true_and, and_true, eq_self, and_self, beq_self_eq_true, c1, c2]
    exact ⟨_, .rfl, .ground rfl, true, rfl, fun h => by cases h⟩
  by_cases c3 : (300 : Int) < E.length
  · simp (maxSteps := 1000000) (disch := first | exact sd | fail) only [go_sem, Nat.reduceAdd, Nat.reduceSub, Nat.reduceLeDiff, ↓reduceIte, decide_eq_true_eq, if_true, if_false, Bool.false_eq_true, Int.lt_irrefl, implies_true, true_and, and_true, eq_self, and_self, beq_self_eq_true, c1, c2, c3]
    exact ⟨_, .rfl, .ground rfl, true, rfl, fun h => by cases h⟩
  by_cases k4 : (300 : Int) < V.length
  · simp (maxSteps := 1000000) (disch := first | exact sd | fail) only [go_sem, Nat.reduceAdd, Nat.reduceSub, Nat.reduceLeDiff, ↓reduceIte, decide_eq_true_eq, if_true, if_false, Bool.false_eq_true, Int.lt_irrefl, implies_true, true_and, and_true, eq_self, and_self, beq_self_eq_true, c1, c2, c3, k4]
    exact ⟨_, .rfl, .ground rfl, true, rfl, fun h => by cases h⟩
  simp (maxSteps := 1000000) (disch := first | exact sd | fail) only [go_sem, Nat.reduceAdd, Nat.reduceSub, Nat.reduceLeDiff, ↓reduceIte, decide_eq_true_eq, if_true, if_false, Bool.false_eq_true, Int.lt_irrefl, implies_true, true_and, and_true, eq_self, and_self, beq_self_eq_true, c1, c2, c3, k4]
  refine aw_loopJ (σ := Nat) (fun s J => [J 0, .pointer (some ⟨N, 0, none⟩), .bool false, .int .i64 s, J 4, J 5, J 6, J 7, J 8, J 9, J 10, J 11, J 12, J 13, J 14, J 15, J 16, J 17, J 18, J 19, J 20, J 21, J 22, J 23, J 24, J 25, J 26, J 27, J 28, J 29, J 30, J 31, J 32, J 33, J 34, J 35, J 36, J 37, J 38, J 39, J 40, J 41, J 42, J 43, J 44, J 45, J 46, J 47, J 48, J 49, J 50, J 51, J 52, J 53, J 54, J 55, J 56, J 57, J 58, J 59, J 60, J 61, J 62, J 63, J 64, J 65, J 66, J 67, J 68, J 69, J 70, J 71, J 72, J 73, J 74, J 75, J 76, J 77, J 78, J 79, J 80, J 81, J 82, J 83, J 84, J 85, J 86, J 87, J 88, J 89, J 90, J 91, J 92, J 93]) (fun m s H1 => m = E.length - s ∧ s ≤ E.length ∧ H1.get N = some (.row true 27 [Vv eL L, Vv eS S, Vv eE E, Vv eV V]) ∧ N < H1.next ∧ ∀ j, j < s → SmE (E.getD j eE.d)) E.length 0 rfl ⟨rfl, Nat.zero_le _, by simp (maxSteps := 1000000) (disch := first | exact sd | fail) only [go_sem, Nat.reduceAdd, Nat.reduceSub, Nat.reduceLeDiff, ↓reduceIte, decide_eq_true_eq, if_true, if_false, Bool.false_eq_true, Int.lt_irrefl, implies_true, true_and, and_true, eq_self, and_self, beq_self_eq_true], by simp only [next_push, next_E0]; omega, fun j hj => by omega⟩ ?_
  rintro m s J H1 ⟨rfl, hs1, gN, n1, hall⟩
  by_cases h4 : (s : Int) < E.length
  · have h5 : (s : Int).toNat = s := rfl
    have hd : LimE (E.getD s eE.d) := getDm (by omega) hE
    generalize hx : E.getD s eE.d = a at *
    obtain ⟨_, _, _, dg, ds, _⟩ := hd
    have l1 := dg.1
    have l2 := ds.1
    by_cases c5 : (100 : Int) < a.g.length
    · simp (maxSteps := 1000000) (disch := first | exact sd | fail) only [go_sem, Nat.reduceAdd, Nat.reduceSub, Nat.reduceLeDiff, ↓reduceIte, decide_eq_true_eq, if_true, if_false, Bool.false_eq_true, Int.lt_irrefl, implies_true, true_and, and_true, eq_self, and_self, beq_self_eq_true, gN, h4, h5, hx, c5]
      exact ⟨_, .rfl, .ground rfl, true, rfl, fun h => by cases h⟩
    by_cases c6 : (20 : Int) < a.s.length
    · simp (maxSteps := 1000000) (disch := first | exact sd | fail) only [go_sem, Nat.reduceAdd, Nat.reduceSub, Nat.reduceLeDiff, ↓reduceIte, decide_eq_true_eq, if_true, if_false, Bool.false_eq_true, Int.lt_irrefl, implies_true, true_and, and_true, eq_self, and_self, beq_self_eq_true, gN, h4, h5, hx, c5, c6]
      exact ⟨_, .rfl, .ground rfl, true, rfl, fun h => by cases h⟩
    simp (maxSteps := 1000000) (disch := first | exact sd | fail) only [go_sem, Nat.reduceAdd, Nat.reduceSub, Nat.reduceLeDiff, ↓reduceIte, decide_eq_true_eq, if_true, if_false, Bool.false_eq_true, Int.lt_irrefl, implies_true, true_and, and_true, eq_self, and_self, beq_self_eq_true, gN, h4, h5, hx, c5, c6]
    refine PK.step (p198 dg) ?_
    rintro _ m1 ⟨b2, rfl, hb2⟩ j1
    cases b2 with
    | true =>
      simp (maxSteps := 1000000) (disch := first | exact sd | fail) only [go_sem, Nat.reduceAdd, Nat.reduceSub, Nat.reduceLeDiff, ↓reduceIte, decide_eq_true_eq, if_true, if_false, Bool.false_eq_true, Int.lt_irrefl, implies_true, true_and, and_true, eq_self, and_self, beq_self_eq_true]
      exact ⟨_, .rfl, .ground rfl, true, rfl, fun h => by cases h⟩
    | false =>
      simp (maxSteps := 1000000) (disch := first | exact sd | fail) only [go_sem, Nat.reduceAdd, Nat.reduceSub, Nat.reduceLeDiff, ↓reduceIte, decide_eq_true_eq, if_true, if_false, Bool.false_eq_true, Int.lt_irrefl, implies_true, true_and, and_true, eq_self, and_self, beq_self_eq_true, gN, h4, h5, hx]
      refine PK.step (p198 ds) ?_
      rintro _ m2 ⟨b3, rfl, hb3⟩ j2
      cases b3 with
      | true =>
        simp (maxSteps := 1000000) (disch := first | exact sd | fail) only [go_sem, Nat.reduceAdd, Nat.reduceSub, Nat.reduceLeDiff, ↓reduceIte, decide_eq_true_eq, if_true, if_false, Bool.false_eq_true, Int.lt_irrefl, implies_true, true_and, and_true, eq_self, and_self, beq_self_eq_true]
        exact ⟨_, .rfl, .ground rfl, true, rfl, fun h => by cases h⟩
      | false =>
        simp (maxSteps := 1000000) (disch := first | exact sd | fail) only [go_sem, Nat.reduceAdd, Nat.reduceSub, Nat.reduceLeDiff, ↓reduceIte, decide_eq_true_eq, if_true, if_false, Bool.false_eq_true, Int.lt_irrefl, implies_true, true_and, and_true, eq_self, and_self, beq_self_eq_true]
        refine IJ_intro (k := E.length - (s + 1)) (by omega) (s + 1) rfl ⟨rfl, by omega, by simp (maxSteps := 1000000) (disch := first | exact sd | fail) only [go_sem, Nat.reduceAdd, Nat.reduceSub, Nat.reduceLeDiff, ↓reduceIte, decide_eq_true_eq, if_true, if_false, Bool.false_eq_true, Int.lt_irrefl, implies_true, true_and, and_true, eq_self, and_self, beq_self_eq_true, gN], by simp only [next_bump] at j2 ⊢; omega, upto_snoc hall ?_⟩
        rw [hx]
        exact ⟨hb2 rfl, hb3 rfl⟩
  simp (maxSteps := 1000000) (disch := first | exact sd | fail) only [go_sem, Nat.reduceAdd, Nat.reduceSub, Nat.reduceLeDiff, ↓reduceIte, decide_eq_true_eq, if_true, if_false, Bool.false_eq_true, Int.lt_irrefl, implies_true, true_and, and_true, eq_self, and_self, beq_self_eq_true, gN, h4]
  have hallE : ∀ e ∈ E, SmE e := of_getD fun j hj => hall j (by omega)
  refine aw_loopJ (σ := Nat) (fun s J => [J 0, .pointer (some ⟨N, 0, none⟩), .bool false, J 3, .int .i64 s, J 5, J 6, J 7, J 8, J 9, J 10, J 11, J 12, J 13, J 14, J 15, J 16, J 17, J 18, J 19, J 20, J 21, J 22, J 23, J 24, J 25, J 26, J 27, J 28, J 29, J 30, J 31, J 32, J 33, J 34, J 35, J 36, J 37, J 38, J 39, J 40, J 41, J 42, J 43, J 44, J 45, J 46, J 47, J 48, J 49, J 50, J 51, J 52, J 53, J 54, J 55, J 56, J 57, J 58, J 59, J 60, J 61, J 62, J 63, J 64, J 65, J 66, J 67, J 68, J 69, J 70, J 71, J 72, J 73, J 74, J 75, J 76, J 77, J 78, J 79, J 80, J 81, J 82, J 83, J 84, J 85, J 86, J 87, J 88, J 89, J 90, J 91, J 92, J 93]) (fun m s H1 => m = V.length - s ∧ s ≤ V.length ∧ H1.get N = some (.row true 27 [Vv eL L, Vv eS S, Vv eE E, Vv eV V]) ∧ N < H1.next ∧ ∀ j, j < s → SmV (V.getD j eV.d)) V.length 0 rfl ⟨rfl, Nat.zero_le _, gN, n1, fun j hj => by omega⟩ ?_
  clear hall gN n1
  rintro m s J H1 ⟨rfl, hs1, gN, n1, hall⟩
  by_cases h4 : (s : Int) < V.length
  · have h5 : (s : Int).toNat = s := rfl
    have hd : LimV (V.getD s eV.d) := getDm (by omega) hV
    generalize hx : V.getD s eV.d = a at *
    obtain ⟨_, _, _, dg⟩ := hd
    have l1 := dg.1
    by_cases c5 : (100 : Int) < a.g.length
    · simp (maxSteps := 1000000) (disch := first | exact sd | fail) only [go_sem, Nat.reduceAdd, Nat.reduceSub, Nat.reduceLeDiff, ↓reduceIte, decide_eq_true_eq, if_true, if_false, Bool.false_eq_true, Int.lt_irrefl, implies_true, true_and, and_true, eq_self, and_self, beq_self_eq_true, gN, h4, h5, hx, c5]
      exact ⟨_, .rfl, .ground rfl, true, rfl, fun h => by cases h⟩
    simp (maxSteps := 1000000) (disch := first | exact sd | fail) only [go_sem, Nat.reduceAdd, Nat.reduceSub, Nat.reduceLeDiff, ↓reduceIte, decide_eq_true_eq, if_true, if_false, Bool.false_eq_true, Int.lt_irrefl, implies_true, true_and, and_true, eq_self, and_self, beq_self_eq_true, gN, h4, h5, hx, c5]
    refine PK.step (p198 dg) ?_
    rintro _ m1 ⟨b2, rfl, hb2⟩ j1
    cases b2 with
    | true =>
      simp (maxSteps := 1000000) (disch := first | exact sd | fail) only [go_sem, Nat.reduceAdd, Nat.reduceSub, Nat.reduceLeDiff, ↓reduceIte, decide_eq_true_eq, if_true, if_false, Bool.false_eq_true, Int.lt_irrefl, implies_true, true_and, and_true, eq_self, and_self, beq_self_eq_true]
      exact ⟨_, .rfl, .ground rfl, true, rfl, fun h => by cases h⟩
    | false =>
      simp (maxSteps := 1000000) (disch := first | exact sd | fail) only [go_sem, Nat.reduceAdd, Nat.reduceSub, Nat.reduceLeDiff, ↓reduceIte, decide_eq_true_eq, if_true, if_false, Bool.false_eq_true, Int.lt_irrefl, implies_true, true_and, and_true, eq_self, and_self, beq_self_eq_true]
      refine IJ_intro (k := V.length - (s + 1)) (by omega) (s + 1) rfl ⟨rfl, by omega, by simp (maxSteps := 1000000) (disch := first | exact sd | fail) only [go_sem, Nat.reduceAdd, Nat.reduceSub, Nat.reduceLeDiff, ↓reduceIte, decide_eq_true_eq, if_true, if_false, Bool.false_eq_true, Int.lt_irrefl, implies_true, true_and, and_true, eq_self, and_self, beq_self_eq_true, gN], by simp only [next_bump] at j1 ⊢; omega, upto_snoc hall ?_⟩
      rw [hx]
      exact hb2 rfl
  simp (maxSteps := 1000000) (disch := first | exact sd | fail) only [go_sem, Nat.reduceAdd, Nat.reduceSub, Nat.reduceLeDiff, ↓reduceIte, decide_eq_true_eq, if_true, if_false, Bool.false_eq_true, Int.lt_irrefl, implies_true, true_and, and_true, eq_self, and_self, beq_self_eq_true, gN, h4]
  exact ⟨_, .rfl, .ground rfl, false, rfl, fun _ => ⟨hallE, of_getD (l := V) fun j hj => hall j (by omega)⟩⟩
end Go.Abs
