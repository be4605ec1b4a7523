/- Lowered programs: whether lines of numbers are right. -/
import Derived.Test.YtboekagofficpaaGreatO2
import Derived.Test.YtboekagofficpaaGreatB9
set_option linter.unusedVariables false
set_option linter.unusedSimpArgs false
namespace Go.Abs
open Go Go.Proofs
set_option maxRecDepth 100000
set_option maxHeartbeats 4000000
theorem T.l244 {H : Heap} {b off : Nat} : aLoad Tryz.prog H 141 (.pointer (some ⟨b, off, none⟩)) = rowAt (H.get b) off := load_one T.r244
theorem T.w244 {H : Heap} {b off : Nat} {f : Fn} {xs ys : List Value} : aStore Tryz.prog H 141 (.pointer (some ⟨b, off, none⟩)) (.func f ⟨xs⟩ ⟨ys⟩) = stRow H b off [.func f ⟨xs⟩ ⟨ys⟩] (H.get b) := store_row (vs := [.func f ⟨xs⟩ ⟨ys⟩]) T.z244 T.s244 rfl rfl rfl
theorem T.new244 : aNew Tryz.prog (fun _ => none) (.alloc 141) = some (141, [.nilFunc], fun b => .pointer (some ⟨b, 0, none⟩)) := by kernel_rfl
theorem T.alloc244 {H : Heap} {e : Env} {K : Value → Heap → Prop} {d : Option Tmp} {ty : TypeId} {ps : String} {af : Array Edge} {gd : Option (Nat × Bool)} : aStep Tryz.prog e H ⟨d, .alloc 141, ty, ps, af, gd⟩ K = K (.pointer (some ⟨H.next, 0, none⟩)) (H.push (.row true 141 [.nilFunc])) := s_alloc T.new244
attribute [go_sem] T.l244 T.w244 T.alloc244
def mayI (a : RI) : Bool := mayB a.neg a.l
def okA (a : RA) (n m : Int) : Bool := decide ((a.x.length : Int) = n) && decide ((a.w.length : Int) = m) && mayI a.k && a.x.all mayI && a.w.all mayI
def okAs (l : List RA) (n m : Int) : Bool := l.all fun a => okA a n m
theorem lb_i {a : RI} (h : LimI a) (s : SmI a) : Lb a.l := ⟨h.1, by unfold SmI at s; omega⟩
theorem p250 {l : List RI} (h : LimIs l) (hs : ∀ i ∈ l, SmI i) : PC Tryz.prog 69 [Vv eI l] (.bool (l.all mayI)) := by
  have hM : maxLen = 9223372036854775807 := rfl
  have hl := h.1
  refine PC.of (.cons pu_Is .nil) (.ground rfl) fun N hN => ?_
  refine ACalls.of_code T.hm (n := 15) Tryz.func69 rfl rfl rfl rfl ?_; simp only [List.replicate_succ, List.replicate_zero, List.cons_append, List.nil_append]
  simp (maxSteps := 1000000) (disch := first | exact sd | fail) only [go_sem, Nat.reduceAdd, Nat.reduceSub, Nat.reduceLeDiff, ↓reduceIte, decide_eq_true_eq, if_true, if_false, Bool.false_eq_true, Int.lt_irrefl, implies_true, true_and, and_true, eq_self, and_self, beq_self_eq_true]
  refine aw_loopJ (σ := Nat) (fun s J => [Vv eI l, J 1, .bool false, .int .i64 s, J 4, J 5, J 6, J 7, J 8, J 9, J 10, J 11, J 12, J 13, J 14, J 15]) (fun m s H1 => m = l.length - s ∧ s ≤ l.length ∧ ∀ j, j < s → mayI (l.getD j eI.d) = true) l.length 0 rfl ⟨rfl, Nat.zero_le _, fun j hj => by omega⟩ ?_
  rintro m s J H1 ⟨rfl, hs1, hall⟩
  by_cases h4 : (s : Int) < l.length
  · have h5 : (s : Int).toNat = s := rfl
    have hd : LimI (l.getD s eI.d) := getDm (by omega) h.2
    have hd2 : SmI (l.getD s eI.d) := getDm (by omega) hs
    have q := p52 (n := (l.getD s eI.d).neg) (lb_i hd hd2)
    change PC Tryz.prog 68 _ (.bool (mayI (l.getD s eI.d))) at q
    simp (maxSteps := 1000000) (disch := first | exact sd | fail) only [go_sem, Nat.reduceAdd, Nat.reduceSub, Nat.reduceLeDiff, ↓reduceIte, decide_eq_true_eq, if_true, if_false, Bool.false_eq_true, Int.lt_irrefl, implies_true, true_and, and_true, eq_self, and_self, beq_self_eq_true, h4, h5]
    refine PC.step (q) fun m1 j1 => ?_
    try simp only [Heap.next_push, Heap.next_set, Heap.next_kill, next_bump, next_E0] at j1
    cases h6 : mayI (l.getD s eI.d) with
    | true =>
      simp (maxSteps := 1000000) (disch := first | exact sd | fail) only [go_sem, Nat.reduceAdd, Nat.reduceSub, Nat.reduceLeDiff, ↓reduceIte, decide_eq_true_eq, if_true, if_false, Bool.false_eq_true, Int.lt_irrefl, implies_true, true_and, and_true, eq_self, and_self, beq_self_eq_true]
      exact IJ_intro (k := l.length - (s + 1)) (by omega) (s + 1) rfl ⟨rfl, by omega, upto_snoc hall h6⟩
    | false =>
      simp (maxSteps := 1000000) (disch := first | exact sd | fail) only [go_sem, Nat.reduceAdd, Nat.reduceSub, Nat.reduceLeDiff, ↓reduceIte, decide_eq_true_eq, if_true, if_false, Bool.false_eq_true, Int.lt_irrefl, implies_true, true_and, and_true, eq_self, and_self, beq_self_eq_true]
      rw [not_all (by omega) h6]
      exact .rfl
  · simp (maxSteps := 1000000) (disch := first | exact sd | fail) only [go_sem, Nat.reduceAdd, Nat.reduceSub, Nat.reduceLeDiff, ↓reduceIte, decide_eq_true_eq, if_true, if_false, Bool.false_eq_true, Int.lt_irrefl, implies_true, true_and, and_true, eq_self, and_self, beq_self_eq_true, h4]
    rw [all_getD (d := eI.d) fun j hj => hall j (by omega)]
    exact .rfl
theorem p229 {l : List RA} {n m : Int} (h : LimAs l) (hs : ∀ a ∈ l, SmA a) : PC Tryz.prog 37 [Vv eA l, .int .i64 n, .int .i64 m] (.bool (okAs l n m)) := by
  have hM : maxLen = 9223372036854775807 := rfl
  have hl := h.1
  refine PC.of (.cons pu_As (.cons (.ground rfl) (.cons (.ground rfl) .nil))) (.ground rfl) fun N hN => ?_
  unfold okAs
  refine ACalls.of_code T.hm (n := 46) Tryz.func37 rfl rfl rfl rfl ?_; simp only [List.replicate_succ, List.replicate_zero, List.cons_append, List.nil_append]
  simp (maxSteps := 1000000) (disch := first | exact sd | fail) only [go_sem, Nat.reduceAdd, Nat.reduceSub, Nat.reduceLeDiff, ↓reduceIte, decide_eq_true_eq, if_true, if_false, Bool.false_eq_true, Int.lt_irrefl, implies_true, true_and, and_true, eq_self, and_self, beq_self_eq_true]
  refine aw_loopJ (σ := Nat) (fun s J => [Vv eA l, .int .i64 n, .int .i64 m, J 3, J 4, J 5, .bool false, .int .i64 s, J 8, J 9, J 10, J 11, J 12, J 13, J 14, J 15, J 16, J 17, J 18, J 19, J 20, J 21, J 22, J 23, J 24, J 25, J 26, J 27, J 28, J 29, J 30, J 31, J 32, J 33, J 34, J 35, J 36, J 37, J 38, J 39, J 40, J 41, J 42, J 43, J 44, J 45, J 46, J 47, J 48]) (fun k s H1 => k = l.length - s ∧ s ≤ l.length ∧ 0 < H1.next ∧ ∀ j, j < s → okA (l.getD j eA.d) n m = true) l.length 0 rfl ⟨rfl, Nat.zero_le _, hN, fun j hj => by omega⟩ ?_
  rintro k s J H1 ⟨rfl, hs1, h0, hall⟩
  by_cases h4 : (s : Int) < l.length
  · have h5 : (s : Int).toNat = s := rfl
    have hd : LimA (l.getD s eA.d) := getDm (by omega) h.2
    have hd2 : SmA (l.getD s eA.d) := getDm (by omega) hs
    have hno : okA (l.getD s eA.d) n m = false → (l.all fun a => okA a n m) = false := fun e => not_all (by omega) e
    generalize he : l.getD s eA.d = a at *
    have q1 := p52 (n := a.k.neg) (lb_i hd.2.2 hd2.2.2.1)
    change PC Tryz.prog 68 _ (.bool (mayI a.k)) at q1
    have q2 := p250 hd.1 hd2.2.2.2.1
    have q3 := p250 hd.2.1 hd2.2.2.2.2
    by_cases c1 : (a.x.length : Int) = n
    rotate_left
    · simp (maxSteps := 1000000) (disch := first | exact sd | fail) only [go_sem, Nat.reduceAdd, Nat.reduceSub, Nat.reduceLeDiff, ↓reduceIte, decide_eq_true_eq, if_true, if_false, Bool.false_eq_true, Int.lt_irrefl, implies_true, true_and, and_true, eq_self, and_self, beq_self_eq_true, h4, h5, he, c1, ne_eq, not_false_eq_true]
      rw [hno (by simp [okA, c1])]
      exact .rfl
    by_cases c2 : (a.w.length : Int) = m
    rotate_left
    · simp (maxSteps := 1000000) (disch := first | exact sd | fail) only [go_sem, Nat.reduceAdd, Nat.reduceSub, Nat.reduceLeDiff, ↓reduceIte, decide_eq_true_eq, if_true, if_false, Bool.false_eq_true, Int.lt_irrefl, implies_true, true_and, and_true, eq_self, and_self, beq_self_eq_true, h4, h5, he, c1, c2, ne_eq, not_false_eq_true, not_true_eq_false]
      rw [hno (by simp [okA, c2])]
      exact .rfl
    simp (maxSteps := 1000000) (disch := first | exact sd | fail) only [go_sem, Nat.reduceAdd, Nat.reduceSub, Nat.reduceLeDiff, ↓reduceIte, decide_eq_true_eq, if_true, if_false, Bool.false_eq_true, Int.lt_irrefl, implies_true, true_and, and_true, eq_self, and_self, beq_self_eq_true, h4, h5, he, c1, c2, ne_eq, not_false_eq_true, not_true_eq_false]
    refine PC.step (q1) fun m1 j1 => ?_
    try simp only [Heap.next_push, Heap.next_set, Heap.next_kill, next_bump, next_E0] at j1
    cases c3 : mayI a.k with
    | false =>
      simp (maxSteps := 1000000) (disch := first | exact sd | fail) only [go_sem, Nat.reduceAdd, Nat.reduceSub, Nat.reduceLeDiff, ↓reduceIte, decide_eq_true_eq, if_true, if_false, Bool.false_eq_true, Int.lt_irrefl, implies_true, true_and, and_true, eq_self, and_self, beq_self_eq_true]
      rw [hno (by simp [okA, c3])]
      exact .rfl
    | true =>
      simp (maxSteps := 1000000) (disch := first | exact sd | fail) only [go_sem, Nat.reduceAdd, Nat.reduceSub, Nat.reduceLeDiff, ↓reduceIte, decide_eq_true_eq, if_true, if_false, Bool.false_eq_true, Int.lt_irrefl, implies_true, true_and, and_true, eq_self, and_self, beq_self_eq_true]
      refine PC.step (q2) fun m2 j2 => ?_
      try simp only [Heap.next_push, Heap.next_set, Heap.next_kill, next_bump, next_E0] at j2
      cases k4 : a.x.all mayI with
      | false =>
        simp (maxSteps := 1000000) (disch := first | exact sd | fail) only [go_sem, Nat.reduceAdd, Nat.reduceSub, Nat.reduceLeDiff, ↓reduceIte, decide_eq_true_eq, if_true, if_false, Bool.false_eq_true, Int.lt_irrefl, implies_true, true_and, and_true, eq_self, and_self, beq_self_eq_true]
        rw [hno (by simp only [okA, k4, Bool.and_false, Bool.false_and])]
        exact .rfl
      | true =>
        simp (maxSteps := 1000000) (disch := first | exact sd | fail) only [go_sem, Nat.reduceAdd, Nat.reduceSub, Nat.reduceLeDiff, ↓reduceIte, decide_eq_true_eq, if_true, if_false, Bool.false_eq_true, Int.lt_irrefl, implies_true, true_and, and_true, eq_self, and_self, beq_self_eq_true]
        refine PC.step (q3) fun m3 j3 => ?_
        try simp only [Heap.next_push, Heap.next_set, Heap.next_kill, next_bump, next_E0] at j3
        cases c5 : a.w.all mayI with
        | false =>
          simp (maxSteps := 1000000) (disch := first | exact sd | fail) only [go_sem, Nat.reduceAdd, Nat.reduceSub, Nat.reduceLeDiff, ↓reduceIte, decide_eq_true_eq, if_true, if_false, Bool.false_eq_true, Int.lt_irrefl, implies_true, true_and, and_true, eq_self, and_self, beq_self_eq_true]
          rw [hno (by simp only [okA, c5, Bool.and_false])]
          exact .rfl
        | true =>
          simp (maxSteps := 1000000) (disch := first | exact sd | fail) only [go_sem, Nat.reduceAdd, Nat.reduceSub, Nat.reduceLeDiff, ↓reduceIte, decide_eq_true_eq, if_true, if_false, Bool.false_eq_true, Int.lt_irrefl, implies_true, true_and, and_true, eq_self, and_self, beq_self_eq_true]
          refine IJ_intro (k := l.length - (s + 1)) (by omega) (s + 1) rfl ⟨rfl, by omega, by simp only [next_bump, next_push] at j1 j2 j3 ⊢; omega, upto_snoc hall ?_⟩
          rw [he]
          simp only [okA, c1, c2, c3, k4, c5, decide_true, Bool.and_self]
  · simp (maxSteps := 1000000) (disch := first | exact sd | fail) only [go_sem, Nat.reduceAdd, Nat.reduceSub, Nat.reduceLeDiff, ↓reduceIte, decide_eq_true_eq, if_true, if_false, Bool.false_eq_true, Int.lt_irrefl, implies_true, true_and, and_true, eq_self, and_self, beq_self_eq_true, h4]
    rw [all_getD (d := eA.d) fun j hj => hall j (by omega)]
    exact .rfl
/-! ### by function values -/
theorem p247 {a : RI} (h : Lb a.l) : PC Tryz.prog 64 [In a.neg a.l] (.bool (!mayI a)) := by
  refine PC.of (.cons pu_I .nil) (.ground rfl) fun N hN => ?_
  have q := p51 (n := a.neg) h
  change PC Tryz.prog 65 _ (.bool (mayI a)) at q
  unfold In at *
  refine ACalls.of_code T.hm (n := 5) Tryz.func64 rfl rfl rfl rfl ?_; simp only [List.replicate_succ, List.replicate_zero, List.cons_append, List.nil_append]
  simp (maxSteps := 1000000) (disch := first | exact sd | fail) only [go_sem, Nat.reduceAdd, Nat.reduceSub, Nat.reduceLeDiff, ↓reduceIte, decide_eq_true_eq, if_true, if_false, Bool.false_eq_true, Int.lt_irrefl, implies_true, true_and, and_true, eq_self, and_self, beq_self_eq_true]
  refine PC.step (q) fun m1 j1 => ?_
  try simp only [Heap.next_push, Heap.next_set, Heap.next_kill, next_bump, next_E0] at j1
  simp (maxSteps := 1000000) (disch := first | exact sd | fail) only [go_sem, Nat.reduceAdd, Nat.reduceSub, Nat.reduceLeDiff, ↓reduceIte, decide_eq_true_eq, if_true, if_false, Bool.false_eq_true, Int.lt_irrefl, implies_true, true_and, and_true, eq_self, and_self, beq_self_eq_true]
  exact .rfl
theorem pu_fn {f : FuncId} : Pu (.func (.func f) ⟨[]⟩ ⟨[]⟩) := .fn .nil .nil
theorem p261 {l : List RI} (h : LimIs l) (hs : ∀ i ∈ l, SmI i) : PK Tryz.prog 98 [Vv eI l, .func (.func 64) ⟨[]⟩ ⟨[]⟩] fun r => ∃ k : Int, r = .int .i64 k ∧ decide (0 ≤ k) = !l.all mayI := by
  have hM : maxLen = 9223372036854775807 := rfl
  have hl := h.1
  refine PC.of' (.cons pu_Is (.cons pu_fn .nil)) fun N hN => ?_
  refine ACalls.of_code T.hm (n := 17) Tryz.func98 rfl rfl rfl rfl ?_; simp only [List.replicate_succ, List.replicate_zero, List.cons_append, List.nil_append]
  simp (maxSteps := 1000000) (disch := first | exact sd | fail) only [go_sem, Nat.reduceAdd, Nat.reduceSub, Nat.reduceLeDiff, ↓reduceIte, decide_eq_true_eq, if_true, if_false, Bool.false_eq_true, Int.lt_irrefl, implies_true, true_and, and_true, eq_self, and_self, beq_self_eq_true]
  refine aw_loopJ (σ := Nat) (fun s J => [Vv eI l, .func (.func 64) ⟨[]⟩ ⟨[]⟩, J 2, J 3, .int .i64 0, J 5, J 6, .int .i64 l.length, .int .i64 s, J 9, J 10, J 11, J 12, J 13, J 14, J 15, J 16, J 17, J 18]) (fun m s H1 => m = l.length - s ∧ s ≤ l.length ∧ ∀ j, j < s → mayI (l.getD j eI.d) = true) l.length 0 rfl ⟨rfl, Nat.zero_le _, fun j hj => by omega⟩ ?_
  rintro m s J H1 ⟨rfl, hs1, hall⟩
  by_cases h4 : (s : Int) < l.length
  · have h5 : (s : Int).toNat = s := rfl
    have hd : LimI (l.getD s eI.d) := getDm (by omega) h.2
    have hd2 : SmI (l.getD s eI.d) := getDm (by omega) hs
    have q := p247 (lb_i hd hd2)
    unfold In at q
    simp (maxSteps := 1000000) (disch := first | exact sd | fail) only [go_sem, Nat.reduceAdd, Nat.reduceSub, Nat.reduceLeDiff, ↓reduceIte, decide_eq_true_eq, if_true, if_false, Bool.false_eq_true, Int.lt_irrefl, implies_true, true_and, and_true, eq_self, and_self, beq_self_eq_true, h4, h5]
    refine PC.step (q) fun m1 j1 => ?_
    try simp only [Heap.next_push, Heap.next_set, Heap.next_kill, next_bump, next_E0] at j1
    cases h6 : mayI (l.getD s eI.d) with
    | true =>
      simp (maxSteps := 1000000) (disch := first | exact sd | fail) only [go_sem, Nat.reduceAdd, Nat.reduceSub, Nat.reduceLeDiff, ↓reduceIte, decide_eq_true_eq, if_true, if_false, Bool.false_eq_true, Int.lt_irrefl, implies_true, true_and, and_true, eq_self, and_self, beq_self_eq_true, Bool.not_true]
      exact IJ_intro (k := l.length - (s + 1)) (by omega) (s + 1) rfl ⟨rfl, by omega, upto_snoc hall h6⟩
    | false =>
      simp (maxSteps := 1000000) (disch := first | exact sd | fail) only [go_sem, Nat.reduceAdd, Nat.reduceSub, Nat.reduceLeDiff, ↓reduceIte, decide_eq_true_eq, if_true, if_false, Bool.false_eq_true, Int.lt_irrefl, implies_true, true_and, and_true, eq_self, and_self, beq_self_eq_true, Bool.not_false]
      refine ⟨_, .rfl, .ground rfl, s, rfl, ?_⟩
      rw [not_all (by omega) h6]
      exact decide_eq_true (by omega)
  · simp (maxSteps := 1000000) (disch := first | exact sd | fail) only [go_sem, Nat.reduceAdd, Nat.reduceSub, Nat.reduceLeDiff, ↓reduceIte, decide_eq_true_eq, if_true, if_false, Bool.false_eq_true, Int.lt_irrefl, implies_true, true_and, and_true, eq_self, and_self, beq_self_eq_true, h4]
    refine ⟨_, .rfl, .ground rfl, -1, rfl, ?_⟩
    rw [all_getD (d := eI.d) fun j hj => hall j (by omega)]
    rfl
theorem p246 {l : List RI} (h : LimIs l) (hs : ∀ i ∈ l, SmI i) : PC Tryz.prog 63 [Vv eI l, .func (.func 64) ⟨[]⟩ ⟨[]⟩] (.bool (!l.all mayI)) := by
  refine PC.of (.cons pu_Is (.cons pu_fn .nil)) (.ground rfl) fun N hN => ?_
  refine ACalls.of_code T.hm (n := 7) Tryz.func63 rfl rfl rfl rfl ?_; simp only [List.replicate_succ, List.replicate_zero, List.cons_append, List.nil_append]
  simp (maxSteps := 1000000) (disch := first | exact sd | fail) only [go_sem, Nat.reduceAdd, Nat.reduceSub, Nat.reduceLeDiff, ↓reduceIte, decide_eq_true_eq, if_true, if_false, Bool.false_eq_true, Int.lt_irrefl, implies_true, true_and, and_true, eq_self, and_self, beq_self_eq_true]
  refine PK.step (p261 h hs) ?_
  rintro _ m1 ⟨k, rfl, hk⟩ j1
  simp (maxSteps := 1000000) (disch := first | exact sd | fail) only [go_sem, Nat.reduceAdd, Nat.reduceSub, Nat.reduceLeDiff, ↓reduceIte, decide_eq_true_eq, if_true, if_false, Bool.false_eq_true, Int.lt_irrefl, implies_true, true_and, and_true, eq_self, and_self, beq_self_eq_true]
  rw [hk]
  exact .rfl
theorem p245 {l : List RI} {n : Int} (h : LimIs l) (hs : ∀ i ∈ l, SmI i) : PC Tryz.prog 62 [Vv eI l, .int .i64 n] (.bool (decide ((l.length : Int) = n) && l.all mayI)) := by
  have hM : maxLen = 9223372036854775807 := rfl
  have hl := h.1
  refine PC.of (.cons pu_Is (.cons (.ground rfl) .nil)) (.ground rfl) fun N hN => ?_
  refine ACalls.of_code T.hm (n := 12) Tryz.func62 rfl rfl rfl rfl ?_; simp only [List.replicate_succ, List.replicate_zero, List.cons_append, List.nil_append]
  by_cases c1 : (l.length : Int) = n
  · simp (maxSteps := 1000000) (disch := first | exact sd | fail) only [go_sem, Nat.reduceAdd, Nat.reduceSub, Nat.reduceLeDiff, ↓reduceIte, decide_eq_true_eq, if_true, if_false, Bool.false_eq_true, Int.lt_irrefl, implies_true, true_and, and_true, eq_self, and_self, beq_self_eq_true, c1]
    refine PC.step (p246 h hs) fun m1 j1 => ?_
    try simp only [Heap.next_push, Heap.next_set, Heap.next_kill, next_bump, next_E0] at j1
    simp (maxSteps := 1000000) (disch := first | exact sd | fail) only [go_sem, Nat.reduceAdd, Nat.reduceSub, Nat.reduceLeDiff, ↓reduceIte, decide_eq_true_eq, if_true, if_false, Bool.false_eq_true, Int.lt_irrefl, implies_true, true_and, and_true, eq_self, and_self, beq_self_eq_true, Bool.not_not, decide_true, Bool.true_and]
    exact .rfl
  · simp (maxSteps := 1000000) (disch := first | exact sd | fail) only [go_sem, Nat.reduceAdd, Nat.reduceSub, Nat.reduceLeDiff, ↓reduceIte, decide_eq_true_eq, if_true, if_false, Bool.false_eq_true, Int.lt_irrefl, implies_true, true_and, and_true, eq_self, and_self, beq_self_eq_true, c1, decide_false, Bool.false_and]
    exact .rfl
theorem c249 {H : Heap} {a : RA} {n m : Int} {b7 b4 b5 : Nat} {o7 o4 o5 : Bool} (h : LimA a) (hs : SmA a) (g7 : H.get b7 = some (.row o7 141 [.func (.func 62) ⟨[]⟩ ⟨[]⟩])) (g4 : H.get b4 = some (.row o4 3 [.int .i64 n])) (g5 : H.get b5 = some (.row o5 3 [.int .i64 m])) (n7 : b7 < H.next) (n4 : b4 < H.next) (n5 : b5 < H.next) :
    ACalls Tryz.prog 67 [.agg ⟨eA.enc a⟩, .pointer (some ⟨b7, 0, none⟩), .pointer (some ⟨b4, 0, none⟩), .pointer (some ⟨b5, 0, none⟩)] H fun v H' => v = .bool (!okA a n m) ∧ Hle H H' := by
  have q1 := p245 (n := n) h.1 hs.2.2.2.1
  have q2 := p245 (n := m) h.2.1 hs.2.2.2.2
  have q3 := p51 (n := a.k.neg) (lb_i h.2.2 hs.2.2.1)
  change PC Tryz.prog 65 _ (.bool (mayI a.k)) at q3
  unfold In at q3
  rw [eA_enc]
  refine ACalls.of_code T.hm (n := 22) Tryz.func67 rfl rfl rfl rfl ?_; simp only [List.replicate_succ, List.replicate_zero, List.cons_append, List.nil_append]
  simp (maxSteps := 1000000) (disch := first | exact sd | fail) only [go_sem, Nat.reduceAdd, Nat.reduceSub, Nat.reduceLeDiff, ↓reduceIte, decide_eq_true_eq, if_true, if_false, Bool.false_eq_true, Int.lt_irrefl, implies_true, true_and, and_true, eq_self, and_self, beq_self_eq_true, g7, g4, g5]
  refine PC.step (q1) fun m1 j1 => ?_
  try simp only [Heap.next_push, Heap.next_set, Heap.next_kill, next_bump, next_E0] at j1
  cases c1 : decide ((a.x.length : Int) = n) && a.x.all mayI with
  | false =>
    simp (maxSteps := 1000000) (disch := first | exact sd | fail) only [go_sem, Nat.reduceAdd, Nat.reduceSub, Nat.reduceLeDiff, ↓reduceIte, decide_eq_true_eq, if_true, if_false, Bool.false_eq_true, Int.lt_irrefl, implies_true, true_and, and_true, eq_self, and_self, beq_self_eq_true, Bool.not_false]
    refine ⟨?_, Hle.bump (Hle.push0 _) j1⟩
    rw [show okA a n m = false by rw [Bool.and_eq_false_iff] at c1; rcases c1 with c | c <;> simp only [okA, c, Bool.and_false, Bool.false_and]]
    rfl
  | true =>
    rw [Bool.and_eq_true] at c1
    simp (maxSteps := 1000000) (disch := first | exact sd | fail) only [go_sem, Nat.reduceAdd, Nat.reduceSub, Nat.reduceLeDiff, ↓reduceIte, decide_eq_true_eq, if_true, if_false, Bool.false_eq_true, Int.lt_irrefl, implies_true, true_and, and_true, eq_self, and_self, beq_self_eq_true, g7, g4, g5, Bool.not_true]
    refine PC.step (q2) fun m2 j2 => ?_
    try simp only [Heap.next_push, Heap.next_set, Heap.next_kill, next_bump, next_E0] at j2
    cases c2 : decide ((a.w.length : Int) = m) && a.w.all mayI with
    | false =>
      simp (maxSteps := 1000000) (disch := first | exact sd | fail) only [go_sem, Nat.reduceAdd, Nat.reduceSub, Nat.reduceLeDiff, ↓reduceIte, decide_eq_true_eq, if_true, if_false, Bool.false_eq_true, Int.lt_irrefl, implies_true, true_and, and_true, eq_self, and_self, beq_self_eq_true, Bool.not_false]
      refine ⟨?_, Hle.bump (Hle.bump (Hle.push0 _) j1) j2⟩
      rw [show okA a n m = false by rw [Bool.and_eq_false_iff] at c2; rcases c2 with c | c <;> simp only [okA, c, Bool.and_false, Bool.false_and]]
      rfl
    | true =>
      rw [Bool.and_eq_true] at c2
      simp (maxSteps := 1000000) (disch := first | exact sd | fail) only [go_sem, Nat.reduceAdd, Nat.reduceSub, Nat.reduceLeDiff, ↓reduceIte, decide_eq_true_eq, if_true, if_false, Bool.false_eq_true, Int.lt_irrefl, implies_true, true_and, and_true, eq_self, and_self, beq_self_eq_true, g7, g4, g5, Bool.not_true]
      refine PC.step (q3) fun m3 j3 => ?_
      try simp only [Heap.next_push, Heap.next_set, Heap.next_kill, next_bump, next_E0] at j3
      simp (maxSteps := 1000000) (disch := first | exact sd | fail) only [go_sem, Nat.reduceAdd, Nat.reduceSub, Nat.reduceLeDiff, ↓reduceIte, decide_eq_true_eq, if_true, if_false, Bool.false_eq_true, Int.lt_irrefl, implies_true, true_and, and_true, eq_self, and_self, beq_self_eq_true]
      refine ⟨?_, Hle.bump (Hle.bump (Hle.bump (Hle.push0 _) j1) j2) j3⟩
      simp only [okA, c1, c2, Bool.true_and, Bool.and_true]
end Go.Abs
