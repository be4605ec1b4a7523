/- Lowered programs: which are right. -/
import Derived.Test.YtboekagofficpaaGreatO3
set_option linter.unusedVariables false
set_option linter.unusedSimpArgs false
namespace Go.Abs
open Go Go.Proofs
set_option maxRecDepth 100000
set_option maxHeartbeats 4000000
abbrev cl249 (b7 b4 b5 : Nat) : Value := .func (.func 67) ⟨[]⟩ ⟨[.pointer (some ⟨b7, 0, none⟩), .pointer (some ⟨b4, 0, none⟩), .pointer (some ⟨b5, 0, none⟩)]⟩
theorem c262 {H : Heap} {l : List RA} {n m : Int} {b7 b4 b5 : Nat} {o7 o4 o5 : Bool} (h : LimAs l) (hs : ∀ a ∈ l, SmA a) (g7 : H.get b7 = some (.row o7 141 [.func (.func 62) ⟨[]⟩ ⟨[]⟩])) (g4 : H.get b4 = some (.row o4 3 [.int .i64 n])) (g5 : H.get b5 = some (.row o5 3 [.int .i64 m])) (n7 : b7 < H.next) (n4 : b4 < H.next) (n5 : b5 < H.next) :
    ACalls Tryz.prog 99 [Vv eA l, .func (.func 67) ⟨[]⟩ ⟨[.pointer (some ⟨b7, 0, none⟩), .pointer (some ⟨b4, 0, none⟩), .pointer (some ⟨b5, 0, none⟩)]⟩] H fun v H' => ∃ k : Int, v = .int .i64 k ∧ decide (0 ≤ k) = !okAs l n m := by
  have hM : maxLen = 9223372036854775807 := rfl
  have hl := h.1
  unfold okAs
  refine ACalls.of_code T.hm (n := 17) Tryz.func99 rfl rfl rfl rfl ?_; simp only [List.replicate_succ, List.replicate_zero, List.cons_append, List.nil_append]
  simp (maxSteps := 1000000) (disch := first | exact sd | fail) only [go_sem, Nat.reduceAdd, Nat.reduceSub, Nat.reduceLeDiff, ↓reduceIte, decide_eq_true_eq, if_true, if_false, Bool.false_eq_true, Int.lt_irrefl, implies_true, true_and, and_true, eq_self, and_self, beq_self_eq_true]
  refine aw_loopJ (σ := Nat) (fun s J => [Vv eA l, .func (.func 67) ⟨[]⟩ ⟨[.pointer (some ⟨b7, 0, none⟩), .pointer (some ⟨b4, 0, none⟩), .pointer (some ⟨b5, 0, none⟩)]⟩, J 2, J 3, .int .i64 0, J 5, J 6, .int .i64 l.length, .int .i64 s, J 9, J 10, J 11, J 12, J 13, J 14, J 15, J 16, J 17, J 18]) (fun k s H1 => k = l.length - s ∧ s ≤ l.length ∧ Hle H H1 ∧ ∀ j, j < s → okA (l.getD j eA.d) n m = true) l.length 0 rfl ⟨rfl, Nat.zero_le _, Hle.rfl, fun j hj => by omega⟩ ?_
  rintro k s J H1 ⟨rfl, hs1, hle, hall⟩
  by_cases h4 : (s : Int) < l.length
  · have h5 : (s : Int).toNat = s := rfl
    have hd : LimA (l.getD s eA.d) := getDm (by omega) h.2
    have hd2 : SmA (l.getD s eA.d) := getDm (by omega) hs
    have hno : okA (l.getD s eA.d) n m = false → (l.all fun a => okA a n m) = false := fun e => not_all (by omega) e
    have hn := hle.next
    have q := c249 (H := H1) (n := n) (m := m) hd hd2 ((hle.get b7 n7).trans g7) ((hle.get b4 n4).trans g4) ((hle.get b5 n5).trans g5) (by omega) (by omega) (by omega)
    rw [eA_enc] at q
    simp (maxSteps := 1000000) (disch := first | exact sd | fail) only [go_sem, Nat.reduceAdd, Nat.reduceSub, Nat.reduceLeDiff, ↓reduceIte, decide_eq_true_eq, if_true, if_false, Bool.false_eq_true, Int.lt_irrefl, implies_true, true_and, and_true, eq_self, and_self, beq_self_eq_true, h4, h5]
    refine q.mono ?_
    rintro _ H2 ⟨rfl, hle2⟩
    cases h6 : okA (l.getD s eA.d) n m with
    | true =>
      simp (maxSteps := 1000000) (disch := first | exact sd | fail) only [go_sem, Nat.reduceAdd, Nat.reduceSub, Nat.reduceLeDiff, ↓reduceIte, decide_eq_true_eq, if_true, if_false, Bool.false_eq_true, Int.lt_irrefl, implies_true, true_and, and_true, eq_self, and_self, beq_self_eq_true, Bool.not_true]
      exact IJ_intro (k := l.length - (s + 1)) (by omega) (s + 1) rfl ⟨rfl, by omega, hle.trans hle2, upto_snoc hall h6⟩
    | false =>
      simp (maxSteps := 1000000) (disch := first | exact sd | fail) only [go_sem, Nat.reduceAdd, Nat.reduceSub, Nat.reduceLeDiff, ↓reduceIte, decide_eq_true_eq, if_true, if_false, Bool.false_eq_true, Int.lt_irrefl, implies_true, true_and, and_true, eq_self, and_self, beq_self_eq_true, Bool.not_false]
      refine ⟨s, rfl, ?_⟩
      rw [hno h6]
      exact decide_eq_true (by omega)
  · simp (maxSteps := 1000000) (disch := first | exact sd | fail) only [go_sem, Nat.reduceAdd, Nat.reduceSub, Nat.reduceLeDiff, ↓reduceIte, decide_eq_true_eq, if_true, if_false, Bool.false_eq_true, Int.lt_irrefl, implies_true, true_and, and_true, eq_self, and_self, beq_self_eq_true, h4]
    refine ⟨-1, rfl, ?_⟩
    rw [all_getD (d := eA.d) fun j hj => hall j (by omega)]
    rfl
theorem c248 {H : Heap} {l : List RA} {n m : Int} {b7 b4 b5 : Nat} {o7 o4 o5 : Bool} (h : LimAs l) (hs : ∀ a ∈ l, SmA a) (g7 : H.get b7 = some (.row o7 141 [.func (.func 62) ⟨[]⟩ ⟨[]⟩])) (g4 : H.get b4 = some (.row o4 3 [.int .i64 n])) (g5 : H.get b5 = some (.row o5 3 [.int .i64 m])) (n7 : b7 < H.next) (n4 : b4 < H.next) (n5 : b5 < H.next) :
    ACalls Tryz.prog 66 [Vv eA l, .func (.func 67) ⟨[]⟩ ⟨[.pointer (some ⟨b7, 0, none⟩), .pointer (some ⟨b4, 0, none⟩), .pointer (some ⟨b5, 0, none⟩)]⟩] H fun v H' => v = .bool (!okAs l n m) := by
  refine ACalls.of_code T.hm (n := 7) Tryz.func66 rfl rfl rfl rfl ?_; simp only [List.replicate_succ, List.replicate_zero, List.cons_append, List.nil_append]
  simp (maxSteps := 1000000) (disch := first | exact sd | fail) only [go_sem, Nat.reduceAdd, Nat.reduceSub, Nat.reduceLeDiff, ↓reduceIte, decide_eq_true_eq, if_true, if_false, Bool.false_eq_true, Int.lt_irrefl, implies_true, true_and, and_true, eq_self, and_self, beq_self_eq_true]
  refine (c262 h hs g7 g4 g5 n7 n4 n5).mono ?_
  rintro _ H2 ⟨k, rfl, hk⟩
  simp (maxSteps := 1000000) (disch := first | exact sd | fail) only [go_sem, Nat.reduceAdd, Nat.reduceSub, Nat.reduceLeDiff, ↓reduceIte, decide_eq_true_eq, if_true, if_false, Bool.false_eq_true, Int.lt_irrefl, implies_true, true_and, and_true, eq_self, and_self, beq_self_eq_true]
  rw [hk]
theorem p228 {l : List RA} {n m : Int} (h : LimAs l) (hs : ∀ a ∈ l, SmA a) : PC Tryz.prog 36 [Vv eA l, .int .i64 n, .int .i64 m] (.bool (okAs l n m)) := by
  refine PC.of (.cons pu_As (.cons (.ground rfl) (.cons (.ground rfl) .nil))) (.ground rfl) fun N hN => ?_
  refine ACalls.of_code T.hm (n := 9) Tryz.func36 rfl rfl rfl rfl ?_; simp only [List.replicate_succ, List.replicate_zero, List.cons_append, List.nil_append]
  simp (maxSteps := 1000000) (disch := first | exact sd | fail) only [go_sem, Nat.reduceAdd, Nat.reduceSub, Nat.reduceLeDiff, ↓reduceIte, decide_eq_true_eq, if_true, if_false, Bool.false_eq_true, Int.lt_irrefl, implies_true, true_and, and_true, eq_self, and_self, beq_self_eq_true]
  refine ACalls.mono (c248 (n := n) (m := m) (o7 := true) (o4 := true) (o5 := true) h hs ?_ ?_ ?_ ?_ ?_ ?_) ?_
  · simp (maxSteps := 1000000) (disch := first | exact sd | fail) only [go_sem, Nat.reduceAdd, Nat.reduceSub, Nat.reduceLeDiff, ↓reduceIte, decide_eq_true_eq, if_true, if_false, Bool.false_eq_true, Int.lt_irrefl, implies_true, true_and, and_true, eq_self, and_self, beq_self_eq_true]
  · simp (maxSteps := 1000000) (disch := first | exact sd | fail) only [go_sem, Nat.reduceAdd, Nat.reduceSub, Nat.reduceLeDiff, ↓reduceIte, decide_eq_true_eq, if_true, if_false, Bool.false_eq_true, Int.lt_irrefl, implies_true, true_and, and_true, eq_self, and_self, beq_self_eq_true]
  · simp (maxSteps := 1000000) (disch := first | exact sd | fail) only [go_sem, Nat.reduceAdd, Nat.reduceSub, Nat.reduceLeDiff, ↓reduceIte, decide_eq_true_eq, if_true, if_false, Bool.false_eq_true, Int.lt_irrefl, implies_true, true_and, and_true, eq_self, and_self, beq_self_eq_true]
  · simp only [next_push, next_set, next_E0]; omega
  · simp only [next_push, next_set, next_E0]; omega
  · simp only [next_push, next_set, next_E0]; omega
  rintro _ H2 rfl
  simp (maxSteps := 1000000) (disch := first | exact sd | fail) only [go_sem, Nat.reduceAdd, Nat.reduceSub, Nat.reduceLeDiff, ↓reduceIte, decide_eq_true_eq, if_true, if_false, Bool.false_eq_true, Int.lt_irrefl, implies_true, true_and, and_true, eq_self, and_self, beq_self_eq_true, Bool.not_not]
  exact .rfl
theorem c226 {H : Heap} {b : Nat} {o : Bool} {i n : Int} (g : H.get b = some (.row o 3 [.int .i64 n])) : ACalls Tryz.prog 34 [.int .i64 i, .pointer (some ⟨b, 0, none⟩)] H fun v H' => v = .bool (decide (0 ≤ i ∧ i < n)) ∧ H' = H := by
  refine ACalls.of_code T.hm (n := 9) Tryz.func34 rfl rfl rfl rfl ?_; simp only [List.replicate_succ, List.replicate_zero, List.cons_append, List.nil_append]
  by_cases c1 : 0 ≤ i
  · by_cases c2 : i < n
    · simp (maxSteps := 1000000) (disch := first | exact sd | fail) only [go_sem, Nat.reduceAdd, Nat.reduceSub, Nat.reduceLeDiff, ↓reduceIte, decide_eq_true_eq, if_true, if_false, Bool.false_eq_true, Int.lt_irrefl, implies_true, true_and, and_true, eq_self, and_self, beq_self_eq_true, g, c1, c2, decide_true]
    · simp (maxSteps := 1000000) (disch := first | exact sd | fail) only [go_sem, Nat.reduceAdd, Nat.reduceSub, Nat.reduceLeDiff, ↓reduceIte, decide_eq_true_eq, if_true, if_false, Bool.false_eq_true, Int.lt_irrefl, implies_true, true_and, and_true, eq_self, and_self, beq_self_eq_true, g, c1, c2, decide_false, and_false]
  · simp (maxSteps := 1000000) (disch := first | exact sd | fail) only [go_sem, Nat.reduceAdd, Nat.reduceSub, Nat.reduceLeDiff, ↓reduceIte, decide_eq_true_eq, if_true, if_false, Bool.false_eq_true, Int.lt_irrefl, implies_true, true_and, and_true, eq_self, and_self, beq_self_eq_true, g, c1, decide_false, false_and]
theorem p227 {m : Int} : PC Tryz.prog 35 [.int .i64 m] (.bool (decide (0 ≤ m ∧ m ≤ 40))) := by
  refine PC.of (.cons (.ground rfl) .nil) (.ground rfl) fun N hN => ?_
  refine ACalls.of_code T.hm (n := 8) Tryz.func35 rfl rfl rfl rfl ?_; simp only [List.replicate_succ, List.replicate_zero, List.cons_append, List.nil_append]
  by_cases c1 : 0 ≤ m
  · by_cases c2 : m ≤ 40
    · simp (maxSteps := 1000000) (disch := first | exact sd | fail) only [go_sem, Nat.reduceAdd, Nat.reduceSub, Nat.reduceLeDiff, ↓reduceIte, decide_eq_true_eq, if_true, if_false, Bool.false_eq_true, Int.lt_irrefl, implies_true, true_and, and_true, eq_self, and_self, beq_self_eq_true, c1, c2, decide_true]
      exact .rfl
    · simp (maxSteps := 1000000) (disch := first | exact sd | fail) only [go_sem, Nat.reduceAdd, Nat.reduceSub, Nat.reduceLeDiff, ↓reduceIte, decide_eq_true_eq, if_true, if_false, Bool.false_eq_true, Int.lt_irrefl, implies_true, true_and, and_true, eq_self, and_self, beq_self_eq_true, c1, c2, decide_false, and_false]
      exact .rfl
  · simp (maxSteps := 1000000) (disch := first | exact sd | fail) only [go_sem, Nat.reduceAdd, Nat.reduceSub, Nat.reduceLeDiff, ↓reduceIte, decide_eq_true_eq, if_true, if_false, Bool.false_eq_true, Int.lt_irrefl, implies_true, true_and, and_true, eq_self, and_self, beq_self_eq_true, c1, decide_false, false_and]
    exact .rfl
/-! ### right -/
def okE (n k : Nat) (e : RE) : Bool := decide (0 ≤ e.f ∧ e.f < n) && decide (0 ≤ e.t ∧ e.t < n) && decide (0 ≤ e.m ∧ e.m ≤ 40) && decide (e.s.length = k) && okAs e.s k e.m && okAs e.g k e.m
def okV (n k : Nat) (e : RV) : Bool := decide (0 ≤ e.l ∧ e.l < n) && decide (0 ≤ e.m ∧ e.m ≤ 40) && okAs e.g k e.m
theorem okE_iff {n k : Nat} {e : RE} : okE n k e = true ↔ (0 ≤ e.f ∧ e.f < n) ∧ (0 ≤ e.t ∧ e.t < n) ∧ (0 ≤ e.m ∧ e.m ≤ 40) ∧ e.s.length = k ∧ okAs e.s k e.m = true ∧ okAs e.g k e.m = true := by
  unfold okE
  simp only [Bool.and_eq_true, decide_eq_true_eq]
  exact ⟨fun ⟨⟨⟨⟨⟨a, b⟩, c⟩, d⟩, e⟩, f⟩ => ⟨a, b, c, d, e, f⟩, fun ⟨a, b, c, d, e, f⟩ => ⟨⟨⟨⟨⟨a, b⟩, c⟩, d⟩, e⟩, f⟩⟩
theorem okV_iff {n k : Nat} {e : RV} : okV n k e = true ↔ (0 ≤ e.l ∧ e.l < n) ∧ (0 ≤ e.m ∧ e.m ≤ 40) ∧ okAs e.g k e.m = true := by
  unfold okV
  simp only [Bool.and_eq_true, decide_eq_true_eq]
  exact ⟨fun ⟨⟨a, b⟩, c⟩ => ⟨a, b, c⟩, fun ⟨a, b, c⟩ => ⟨⟨a, b⟩, c⟩⟩
def okW (l : RW) : Bool := decide (1 ≤ l.locs.length ∧ l.locs.length ≤ 40 ∧ l.slots.length ≤ 6 ∧ l.edges.length ≤ 200 ∧ l.viols.length ≤ 200) && l.edges.all (okE l.locs.length l.slots.length) && l.viols.all (okV l.locs.length l.slots.length)
theorem bool_no {b : Bool} (h : ¬ b = true) : b = false := Bool.eq_false_iff.2 h
end Go.Abs
