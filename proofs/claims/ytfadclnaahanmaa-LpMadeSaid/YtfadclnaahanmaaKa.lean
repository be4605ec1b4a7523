/- Joined: K1, K2, K3. -/
import Derived.Test.YtfadclnaahanmaaVe
/- Linear problems: sizes, whether one is right. -/
set_option linter.unusedVariables false
set_option linter.unusedSimpArgs false
namespace Go.Abs
open Go Go.Proofs
set_option maxRecDepth 100000
set_option maxHeartbeats 4000000
def Lpv (n : Int) (A : List (List RQ)) (B C : List RQ) : Value := .agg ⟨[.int .i64 n, Vv eR A, Vv eQ B, Vv eQ C]⟩
def Anv (k : Int) (v : RQ) (X Y Z : List RQ) : Value := .agg ⟨[.int .i64 k, .bool v.p.neg, Vv eU v.p.l, .bool v.q.neg, Vv eU v.q.l, Vv eQ X, Vv eQ Y, Vv eQ Z]⟩
theorem pu_Lp {n : Int} {A : List (List RQ)} {B C : List RQ} : Pu (Lpv n A B C) := .agg (.cons (.ground rfl) (.cons pu_Rs (.cons pu_Qs (.cons pu_Qs .nil))))
theorem pu_An {k : Int} {v : RQ} {X Y Z : List RQ} : Pu (Anv k v X Y Z) := .agg (.cons (.ground rfl) (.cons (.ground rfl) (.cons pu_U (.cons (.ground rfl) (.cons pu_U (.cons pu_Qs (.cons pu_Qs (.cons pu_Qs .nil))))))))
/-! ### right -/
def okLp (n : Int) (A : List (List RQ)) (B C : List RQ) : Bool := decide (0 ≤ n ∧ n ≤ 60 ∧ A.length ≤ 60 ∧ B.length = A.length ∧ (C.length : Int) = n) && A.all fun r => decide ((r.length : Int) = n)
theorem okLp_iff {n : Int} {A : List (List RQ)} {B C : List RQ} : okLp n A B C = true ↔ (0 ≤ n ∧ n ≤ 60 ∧ A.length ≤ 60 ∧ B.length = A.length ∧ (C.length : Int) = n) ∧ ∀ j, j < A.length → ((rwi A j).length : Int) = n := by
  unfold okLp
  rw [Bool.and_eq_true, decide_eq_true_eq, List.all_eq_true]
  refine and_congr_right fun _ => ⟨fun h j hj => ?_, fun h r hr => ?_⟩
  · have := h _ (List.getElem_mem hj)
    unfold rwi
    rw [getD_eq hj]
    exact of_decide_eq_true this
  · obtain ⟨j, hj, rfl⟩ := List.getElem_of_mem hr
    have := h j hj
    unfold rwi at this
    rw [getD_eq hj] at this
    exact decide_eq_true this
theorem okLp_out {n : Int} {A : List (List RQ)} {B C : List RQ} (h : ¬ (0 ≤ n ∧ n ≤ 60 ∧ A.length ≤ 60 ∧ B.length = A.length ∧ (C.length : Int) = n)) : okLp n A B C = false := by simp [okLp, h]
theorem c185 {H : Heap} {r : List RQ} {n : Int} {A : List (List RQ)} {B C : List RQ} : ACalls Try.prog 77 [Vv eQ r, fpv [.int .i64 n, Vv eR A, Vv eQ B, Vv eQ C]] H fun v H' => v = .bool (decide ((r.length : Int) ≠ n)) ∧ Hle H H' := by
  refine ACalls.of_code T.hm (n := 7) Try.func77 rfl rfl rfl rfl ?_; simp only [List.replicate_succ, List.replicate_zero, List.cons_append, List.nil_append]
  simp (maxSteps := 1000000) (disch := first | exact sd | fail) only [go_sem, Nat.reduceAdd, Nat.reduceSub, Nat.reduceLeDiff, ↓reduceIte, decide_eq_true_eq, if_true, if_false, Bool.false_eq_true, Int.lt_irrefl, implies_true, true_and, and_true, eq_self, and_self, beq_self_eq_true]
  exact Hle.rfl
theorem c218 {H : Heap} {m : List (List RQ)} {n : Int} {A : List (List RQ)} {B C : List RQ} (hm : m.length ≤ 9223372036854775807) : ACalls Try.prog 117 [Vv eR m, .func (.func 77) ⟨[]⟩ ⟨[fpv [.int .i64 n, Vv eR A, Vv eQ B, Vv eQ C]]⟩] H fun v H' => ∃ k : Int, v = .int .i64 k ∧ (0 ≤ k ↔ ∃ j, j < m.length ∧ ((rwi m j).length : Int) ≠ n) := by
  refine ACalls.of_code T.hm (n := 17) Try.func117 rfl rfl rfl rfl ?_; simp only [List.replicate_succ, List.replicate_zero, List.cons_append, List.nil_append]
  simp (maxSteps := 1000000) (disch := first | exact sd | fail) only [go_sem, Nat.reduceAdd, Nat.reduceSub, Nat.reduceLeDiff, ↓reduceIte, decide_eq_true_eq, if_true, if_false, Bool.false_eq_true, Int.lt_irrefl, implies_true, true_and, and_true, eq_self, and_self, beq_self_eq_true]
  refine aw_loopJ (σ := Nat) (fun s J => [Vv eR m, .func (.func 77) ⟨[]⟩ ⟨[fpv [.int .i64 n, Vv eR A, Vv eQ B, Vv eQ C]]⟩, J 2, J 3, .int .i64 0, J 5, J 6, .int .i64 m.length, .int .i64 s, J 9, J 10, J 11, J 12, J 13, J 14, J 15, J 16, J 17, J 18]) (fun i s H1 => i = m.length - s ∧ s ≤ m.length ∧ ∀ j, j < s → ((rwi m j).length : Int) = n) m.length 0 rfl ⟨rfl, Nat.zero_le _, fun j hj => by omega⟩ ?_
  rintro i k J H1 ⟨rfl, hk, hall⟩
  by_cases h4 : (k : Int) < m.length
  · simp (maxSteps := 1000000) (disch := first | exact sd | fail) only [go_sem, Nat.reduceAdd, Nat.reduceSub, Nat.reduceLeDiff, ↓reduceIte, decide_eq_true_eq, if_true, if_false, Bool.false_eq_true, Int.lt_irrefl, implies_true, true_and, and_true, eq_self, and_self, beq_self_eq_true, h4, Int.toNat_natCast, show m.getD k [] = rwi m k from rfl]
    refine c185.mono ?_
    rintro _ H2 ⟨rfl, hle⟩
    by_cases h5 : ((rwi m k).length : Int) = n
    · simp (maxSteps := 1000000) (disch := first | exact sd | fail) only [go_sem, Nat.reduceAdd, Nat.reduceSub, Nat.reduceLeDiff, ↓reduceIte, decide_eq_true_eq, if_true, if_false, Bool.false_eq_true, Int.lt_irrefl, implies_true, true_and, and_true, eq_self, and_self, beq_self_eq_true, h5, ne_eq, not_true_eq_false, decide_false]
      refine IJ_intro (k := m.length - (k + 1)) (by omega) (k + 1) rfl ⟨rfl, by omega, fun j hj => ?_⟩
      rcases Nat.lt_or_ge j k with h6 | h6
      · exact hall j h6
      · have : j = k := by omega
        subst this; exact h5
    · simp (maxSteps := 1000000) (disch := first | exact sd | fail) only [go_sem, Nat.reduceAdd, Nat.reduceSub, Nat.reduceLeDiff, ↓reduceIte, decide_eq_true_eq, if_true, if_false, Bool.false_eq_true, Int.lt_irrefl, implies_true, true_and, and_true, eq_self, and_self, beq_self_eq_true, h5, ne_eq, not_false_eq_true, decide_true]
      exact ⟨k, rfl, fun _ => ⟨k, by omega, h5⟩, fun _ => by omega⟩
  · simp (maxSteps := 1000000) (disch := first | exact sd | fail) only [go_sem, Nat.reduceAdd, Nat.reduceSub, Nat.reduceLeDiff, ↓reduceIte, decide_eq_true_eq, if_true, if_false, Bool.false_eq_true, Int.lt_irrefl, implies_true, true_and, and_true, eq_self, and_self, beq_self_eq_true, h4]
    refine ⟨-1, rfl, fun h => by omega, fun ⟨j, hj, h⟩ => absurd (hall j (by omega)) h⟩
theorem c184 {H : Heap} {m : List (List RQ)} {n : Int} {A : List (List RQ)} {B C : List RQ} (hm : m.length ≤ 9223372036854775807) : ACalls Try.prog 76 [Vv eR m, .func (.func 77) ⟨[]⟩ ⟨[fpv [.int .i64 n, Vv eR A, Vv eQ B, Vv eQ C]]⟩] H fun v H' => v = .bool (decide (∃ j, j < m.length ∧ ((rwi m j).length : Int) ≠ n)) := by
  refine ACalls.of_code T.hm (n := 7) Try.func76 rfl rfl rfl rfl ?_; simp only [List.replicate_succ, List.replicate_zero, List.cons_append, List.nil_append]
  simp (maxSteps := 1000000) (disch := first | exact sd | fail) only [go_sem, Nat.reduceAdd, Nat.reduceSub, Nat.reduceLeDiff, ↓reduceIte, decide_eq_true_eq, if_true, if_false, Bool.false_eq_true, Int.lt_irrefl, implies_true, true_and, and_true, eq_self, and_self, beq_self_eq_true]
  refine (c218 hm).mono ?_
  rintro _ H2 ⟨k, rfl, hk⟩
  simp (maxSteps := 1000000) (disch := first | exact sd | fail) only [go_sem, Nat.reduceAdd, Nat.reduceSub, Nat.reduceLeDiff, ↓reduceIte, decide_eq_true_eq, if_true, if_false, Bool.false_eq_true, Int.lt_irrefl, implies_true, true_and, and_true, eq_self, and_self, beq_self_eq_true]
  exact congrArg Value.bool (decide_eq_decide.2 hk)
theorem p117 {n : Int} {A : List (List RQ)} {B C : List RQ} (hm : A.length ≤ 9223372036854775807) : PC Try.prog 40 [Lpv n A B C] (.bool (okLp n A B C)) := by
  refine PC.of (.cons pu_Lp .nil) (.ground rfl) fun N hN => ?_
  unfold Lpv
  refine ACalls.of_code T.hm (n := 38) Try.func40 rfl rfl rfl rfl ?_; simp only [List.replicate_succ, List.replicate_zero, List.cons_append, List.nil_append]
  by_cases h1 : n < 0
  · simp (maxSteps := 1000000) (disch := first | exact sd | fail) only [go_sem, Nat.reduceAdd, Nat.reduceSub, Nat.reduceLeDiff, ↓reduceIte, decide_eq_true_eq, if_true, if_false, Bool.false_eq_true, Int.lt_irrefl, implies_true, true_and, and_true, eq_self, and_self, beq_self_eq_true, h1]
    rw [okLp_out (by omega)]
    exact .rfl
  by_cases h2 : 60 < n
  · simp (maxSteps := 1000000) (disch := first | exact sd | fail) only [go_sem, Nat.reduceAdd, Nat.reduceSub, Nat.reduceLeDiff, ↓reduceIte, decide_eq_true_eq, if_true, if_false, Bool.false_eq_true, Int.lt_irrefl, implies_true, true_and, and_true, eq_self, and_self, beq_self_eq_true, h1, h2]
    rw [okLp_out (by omega)]
    exact .rfl
  by_cases h3 : (60 : Int) < A.length
  · simp (maxSteps := 1000000) (disch := first | exact sd | fail) only [go_sem, Nat.reduceAdd, Nat.reduceSub, Nat.reduceLeDiff, ↓reduceIte, decide_eq_true_eq, if_true, if_false, Bool.false_eq_true, Int.lt_irrefl, implies_true, true_and, and_true, eq_self, and_self, beq_self_eq_true, h1, h2, h3]
    rw [okLp_out (by omega)]
    exact .rfl
  by_cases h4 : (B.length : Int) = A.length
  rotate_left
  · simp (maxSteps := 1000000) (disch := first | exact sd | fail) only [go_sem, Nat.reduceAdd, Nat.reduceSub, Nat.reduceLeDiff, ↓reduceIte, decide_eq_true_eq, if_true, if_false, Bool.false_eq_true, Int.lt_irrefl, implies_true, true_and, and_true, eq_self, and_self, beq_self_eq_true, h1, h2, h3, h4, ne_eq, not_false_eq_true]
    rw [okLp_out (by omega)]
    exact .rfl
  by_cases h5 : (C.length : Int) = n
  rotate_left
  · simp (maxSteps := 1000000) (disch := first | exact sd | fail) only [go_sem, Nat.reduceAdd, Nat.reduceSub, Nat.reduceLeDiff, ↓reduceIte, decide_eq_true_eq, if_true, if_false, Bool.false_eq_true, Int.lt_irrefl, implies_true, true_and, and_true, eq_self, and_self, beq_self_eq_true, h1, h2, h3, h4, h5, ne_eq, not_false_eq_true, not_true_eq_false]
    rw [okLp_out (by omega)]
    exact .rfl
  have ho : 0 ≤ n ∧ n ≤ 60 ∧ A.length ≤ 60 ∧ B.length = A.length ∧ (C.length : Int) = n := by omega
  simp (maxSteps := 1000000) (disch := first | exact sd | fail) only [go_sem, Nat.reduceAdd, Nat.reduceSub, Nat.reduceLeDiff, ↓reduceIte, decide_eq_true_eq, if_true, if_false, Bool.false_eq_true, Int.lt_irrefl, implies_true, true_and, and_true, eq_self, and_self, beq_self_eq_true, h1, h2, h3, h4, h5, ne_eq, not_true_eq_false]
  refine ACalls.frzFn (ps := [_]) (cells := [.int .i64 n, Vv eR A, Vv eQ B, Vv eQ C]) (own := true) (el := 62) (by simp (maxSteps := 1000000) (disch := first | exact sd | fail) only [go_sem, Nat.reduceAdd, Nat.reduceSub, Nat.reduceLeDiff, ↓reduceIte, decide_eq_true_eq, if_true, if_false, Bool.false_eq_true, Int.lt_irrefl, implies_true, true_and, and_true, eq_self, and_self, beq_self_eq_true]) (by simp) ?_
  refine (c184 hm).mono ?_
  rintro _ H2 rfl
  simp (maxSteps := 1000000) (disch := first | exact sd | fail) only [go_sem, Nat.reduceAdd, Nat.reduceSub, Nat.reduceLeDiff, ↓reduceIte, decide_eq_true_eq, if_true, if_false, Bool.false_eq_true, Int.lt_irrefl, implies_true, true_and, and_true, eq_self, and_self, beq_self_eq_true]
  have : (!decide (∃ j, j < A.length ∧ ((rwi A j).length : Int) ≠ n)) = okLp n A B C := by
    rw [Bool.eq_iff_iff, Bool.not_eq_true', decide_eq_false_iff_not, okLp_iff]
    exact ⟨fun h => ⟨ho, fun j hj => Classical.byContradiction fun k => h ⟨j, hj, k⟩⟩, fun h ⟨j, hj, k⟩ => k (h.2 j hj)⟩
  rw [← this]
  exact .rfl
end Go.Abs

/- Linear problems: what is within. -/
set_option linter.unusedVariables false
set_option linter.unusedSimpArgs false
namespace Go.Abs
open Go Go.Proofs
set_option maxRecDepth 100000
set_option maxHeartbeats 4000000
def plK2_120_7 : Plan := ⟨[0, 1, 2, 3, 4, 5, 6, 7, 8], [(9, [], [10])]⟩
def plK2_186_7 : Plan := ⟨[0, 1, 2, 3, 4, 5, 6, 7], [(8, [], [9])]⟩
theorem nzQ1 {v : Value} : Nzs [v, R4 false [] false []] [v, .agg ⟨[.bool false, .slice none 0 0, .bool false, .slice none 0 0]⟩] := .cons .rfl (.cons (.agg (.cons .rfl (.cons .vnil (.cons .rfl (.cons .vnil .nil))))) .nil)
def okTb (m : List (List RQ)) (n : Nat) : Bool := m.all fun r => decide (r.length = n)
theorem okTb_iff {m : List (List RQ)} {n : Nat} : okTb m n = true ↔ okT m n := by
  unfold okTb okT
  rw [List.all_eq_true]
  refine ⟨fun h j hj => ?_, fun h r hr => ?_⟩
  · have := h _ (List.getElem_mem hj)
    unfold rwi
    rw [getD_eq hj]
    exact of_decide_eq_true this
  · obtain ⟨j, hj, rfl⟩ := List.getElem_of_mem hr
    have := h j hj
    unfold rwi at this
    rw [getD_eq hj] at this
    exact decide_eq_true this
def belowV (A : List (List RQ)) (x b : List RQ) : Bool := okTb A x.length && (List.range A.length).all fun i => decide (dotV (rwi A i) x ≤ ev b i)
theorem belowV_iff {A : List (List RQ)} {x b : List RQ} : belowV A x b = true ↔ okT A x.length ∧ ∀ i, i < A.length → dotV (rwi A i) x ≤ ev b i := by
  unfold belowV
  rw [Bool.and_eq_true, okTb_iff, List.all_eq_true]
  exact and_congr_right fun _ => ⟨fun h i hi => of_decide_eq_true (h i (List.mem_range.2 hi)), fun h i hi => decide_eq_true (h i (List.mem_range.1 hi))⟩
theorem belowV_out {A : List (List RQ)} {x b : List RQ} (h : ¬ okT A x.length) : belowV A x b = false := by
  rw [Bool.eq_false_iff]; exact fun k => h (belowV_iff.1 k).1
theorem belowV_row {A : List (List RQ)} {x b : List RQ} {i : Nat} (hi : i < A.length) (h : ev b i < dotV (rwi A i) x) : belowV A x b = false := by
  rw [Bool.eq_false_iff]; exact fun k => absurd ((belowV_iff.1 k).2 i hi) (Rat.not_le.2 h)
theorem p186 {n : Int} {A : List (List RQ)} {B C x b : List RQ} (hA : A.length ≤ 200) (hr : ∀ j, Rg (rwi A j)) (hx : Rg x) (hb : Rw b) (hl : A.length ≤ b.length) : PC Try.prog 78 [Lpv n A B C, Vv eQ x, Vv eQ b] (.bool (belowV A x b)) := by
  refine PC.of (.cons pu_Lp (.cons pu_Qs (.cons pu_Qs .nil))) (.ground rfl) fun N hN => ?_
  unfold Lpv
  refine ACalls.of_code T.hm (n := 32) Try.func78 rfl rfl rfl rfl ?_; simp only [List.replicate_succ, List.replicate_zero, List.cons_append, List.nil_append]
  by_cases hk : okT A x.length
  rotate_left
  · have q := p92x (by omega) (fun j => (hr j).rw) hx.rw hk
    simp (maxSteps := 1000000) (disch := first | exact sd | fail) only [go_sem, Nat.reduceAdd, Nat.reduceSub, Nat.reduceLeDiff, ↓reduceIte, decide_eq_true_eq, if_true, if_false, Bool.false_eq_true, Int.lt_irrefl, implies_true, true_and, and_true, eq_self, and_self, beq_self_eq_true, aw_plan (id := 7) plK2_186_7, plK2_186_7]
    refine PC.step (q) fun m1 j1 => ?_
    try simp only [Heap.next_push, Heap.next_set, Heap.next_kill, next_bump, next_E0] at j1
    simp (maxSteps := 1000000) (disch := first | exact sd | fail) only [go_sem, Nat.reduceAdd, Nat.reduceSub, Nat.reduceLeDiff, ↓reduceIte, decide_eq_true_eq, if_true, if_false, Bool.false_eq_true, Int.lt_irrefl, implies_true, true_and, and_true, eq_self, and_self, beq_self_eq_true, aw_plan (id := 7) plK2_186_7, plK2_186_7, ne_eq, not_false_eq_true]
    rw [belowV_out hk]
    exact .rfl
  have q := p92 (by omega) (fun j => (hr j).rw) hx.rw hk
  have hw := Rg.times hA hr hx
  have he : ∀ i, i < A.length → ev (timesV A x) i = dotV (rwi A i) x := fun i hi => ev_tab hi
  have hn : (timesV A x).length = A.length := tab_len
  generalize timesV A x = L at *
  simp (maxSteps := 1000000) (disch := first | exact sd | fail) only [go_sem, Nat.reduceAdd, Nat.reduceSub, Nat.reduceLeDiff, ↓reduceIte, decide_eq_true_eq, if_true, if_false, Bool.false_eq_true, Int.lt_irrefl, implies_true, true_and, and_true, eq_self, and_self, beq_self_eq_true, aw_plan (id := 7) plK2_186_7, plK2_186_7]
  refine PC.step (q) fun m1 j1 => ?_
  try simp only [Heap.next_push, Heap.next_set, Heap.next_kill, next_bump, next_E0] at j1
  simp (maxSteps := 1000000) (disch := first | exact sd | fail) only [go_sem, Nat.reduceAdd, Nat.reduceSub, Nat.reduceLeDiff, ↓reduceIte, decide_eq_true_eq, if_true, if_false, Bool.false_eq_true, Int.lt_irrefl, implies_true, true_and, and_true, eq_self, and_self, beq_self_eq_true, aw_plan (id := 7) plK2_186_7, plK2_186_7, ne_eq, not_true_eq_false]
  refine aw_loopS (σ := Nat) (fun k J => [J 0, Vv eQ x, Vv eQ b, J 3, J 4, J 5, .bool false, Vv eQ L, J 8, J 9, J 10, J 11, J 12, J 13, J 14, J 15, J 16, J 17, J 18, J 19, .int .i64 L.length, .int .i64 k, J 22, J 23, J 24, J 25, J 26, J 27, J 28, J 29, J 30, J 31, J 32, J 33, J 34]) (fun m k => m = L.length - k ∧ k ≤ L.length ∧ ∀ i, i < k → dotV (rwi A i) x ≤ ev b i) L.length 0 rfl ⟨rfl, Nat.zero_le _, fun i hi => by omega⟩ ?_
  rintro m k J ⟨rfl, hk2, hall⟩
  by_cases h4 : (k : Int) < L.length
  · have h5 : (k : Int) < b.length := by omega
    have hkA : k < A.length := by omega
    have q1 := p177v (hw.getD k) (hb.getD k)
    change PC Try.prog 118 _ (.int .i64 (cq (ev L k) (ev b k))) at q1
    rw [he k hkA] at q1
    by_cases h6 : 0 < cq (dotV (rwi A k) x) (ev b k)
    · simp (maxSteps := 1000000) (disch := first | exact sd | fail) only [go_sem, Nat.reduceAdd, Nat.reduceSub, Nat.reduceLeDiff, ↓reduceIte, decide_eq_true_eq, if_true, if_false, Bool.false_eq_true, Int.lt_irrefl, implies_true, true_and, and_true, eq_self, and_self, beq_self_eq_true, aw_plan (id := 7) plK2_186_7, plK2_186_7, h4, h5, Int.toNat_natCast]
      refine (PC.peek q1 rfl .refl ?_)
      simp (maxSteps := 1000000) (disch := first | exact sd | fail) only [go_sem, Nat.reduceAdd, Nat.reduceSub, Nat.reduceLeDiff, ↓reduceIte, decide_eq_true_eq, if_true, if_false, Bool.false_eq_true, Int.lt_irrefl, implies_true, true_and, and_true, eq_self, and_self, beq_self_eq_true, aw_plan (id := 7) plK2_186_7, plK2_186_7, h6]
      rw [belowV_row hkA (cq_pos.1 h6)]
      exact .rfl
    · have h7 : dotV (rwi A k) x ≤ ev b k := Rat.not_lt.1 fun h => h6 (cq_pos.2 h)
      simp (maxSteps := 1000000) (disch := first | exact sd | fail) only [go_sem, Nat.reduceAdd, Nat.reduceSub, Nat.reduceLeDiff, ↓reduceIte, decide_eq_true_eq, if_true, if_false, Bool.false_eq_true, Int.lt_irrefl, implies_true, true_and, and_true, eq_self, and_self, beq_self_eq_true, aw_plan (id := 7) plK2_186_7, plK2_186_7, h4, h5, Int.toNat_natCast]
      refine (PC.peek q1 rfl .refl ?_)
      simp (maxSteps := 1000000) (disch := first | exact sd | fail) only [go_sem, Nat.reduceAdd, Nat.reduceSub, Nat.reduceLeDiff, ↓reduceIte, decide_eq_true_eq, if_true, if_false, Bool.false_eq_true, Int.lt_irrefl, implies_true, true_and, and_true, eq_self, and_self, beq_self_eq_true, aw_plan (id := 7) plK2_186_7, plK2_186_7, h6]
      refine IJ_intro (k := L.length - (k + 1)) (by omega) (k + 1) rfl ⟨⟨rfl, by omega, fun i hi => ?_⟩, rfl⟩
      rcases Nat.lt_or_ge i k with h8 | h8
      · exact hall i h8
      · have : i = k := by omega
        subst this; exact h7
  · simp (maxSteps := 1000000) (disch := first | exact sd | fail) only [go_sem, Nat.reduceAdd, Nat.reduceSub, Nat.reduceLeDiff, ↓reduceIte, decide_eq_true_eq, if_true, if_false, Bool.false_eq_true, Int.lt_irrefl, implies_true, true_and, and_true, eq_self, and_self, beq_self_eq_true, aw_plan (id := 7) plK2_186_7, plK2_186_7, h4]
    rw [belowV_iff.2 ⟨hk, fun i hi => hall i (by omega)⟩]
    exact .rfl
def withinV (n : Int) (A : List (List RQ)) (B C x : List RQ) : Bool := okLp n A B C && decide ((x.length : Int) = n) && belowV A x B
theorem p119 {n : Int} {A : List (List RQ)} {B C x : List RQ} (hA : A.length ≤ 200) (hr : ∀ j, Rg (rwi A j)) (hx : Rg x) (hb : Rg B) : PC Try.prog 42 [Lpv n A B C, Vv eQ x] (.bool (withinV n A B C x)) := by
  refine PC.of (.cons pu_Lp (.cons pu_Qs .nil)) (.ground rfl) fun N hN => ?_
  have q1 := p117 (n := n) (A := A) (B := B) (C := C) (by omega)
  unfold withinV
  cases h1 : okLp n A B C with
  | false =>
    rw [h1] at q1
    unfold Lpv at q1 ⊢
    refine ACalls.of_code T.hm (n := 19) Try.func42 rfl rfl rfl rfl ?_; simp only [List.replicate_succ, List.replicate_zero, List.cons_append, List.nil_append]
    simp (maxSteps := 1000000) (disch := first | exact sd | fail) only [go_sem, Nat.reduceAdd, Nat.reduceSub, Nat.reduceLeDiff, ↓reduceIte, decide_eq_true_eq, if_true, if_false, Bool.false_eq_true, Int.lt_irrefl, implies_true, true_and, and_true, eq_self, and_self, beq_self_eq_true]
    refine PC.step (q1) fun m1 j1 => ?_
    try simp only [Heap.next_push, Heap.next_set, Heap.next_kill, next_bump, next_E0] at j1
    simp (maxSteps := 1000000) (disch := first | exact sd | fail) only [go_sem, Nat.reduceAdd, Nat.reduceSub, Nat.reduceLeDiff, ↓reduceIte, decide_eq_true_eq, if_true, if_false, Bool.false_eq_true, Int.lt_irrefl, implies_true, true_and, and_true, eq_self, and_self, beq_self_eq_true]
    exact .rfl
  | true =>
    rw [h1] at q1
    have hB := (okLp_iff.1 h1).1.2.2.2.1
    by_cases h2 : (x.length : Int) = n
    · have q2 := p186 (n := n) (B := B) (C := C) hA hr hx hb.rw (by omega)
      unfold Lpv at q1 q2 ⊢
      refine ACalls.of_code T.hm (n := 19) Try.func42 rfl rfl rfl rfl ?_; simp only [List.replicate_succ, List.replicate_zero, List.cons_append, List.nil_append]
      simp (maxSteps := 1000000) (disch := first | exact sd | fail) only [go_sem, Nat.reduceAdd, Nat.reduceSub, Nat.reduceLeDiff, ↓reduceIte, decide_eq_true_eq, if_true, if_false, Bool.false_eq_true, Int.lt_irrefl, implies_true, true_and, and_true, eq_self, and_self, beq_self_eq_true]
      refine PC.step (q1) fun m1 j1 => ?_
      try simp only [Heap.next_push, Heap.next_set, Heap.next_kill, next_bump, next_E0] at j1
      simp (maxSteps := 1000000) (disch := first | exact sd | fail) only [go_sem, Nat.reduceAdd, Nat.reduceSub, Nat.reduceLeDiff, ↓reduceIte, decide_eq_true_eq, if_true, if_false, Bool.false_eq_true, Int.lt_irrefl, implies_true, true_and, and_true, eq_self, and_self, beq_self_eq_true, h2]
      refine PC.step (q2) fun m2 j2 => ?_
      try simp only [Heap.next_push, Heap.next_set, Heap.next_kill, next_bump, next_E0] at j2
      simp (maxSteps := 1000000) (disch := first | exact sd | fail) only [go_sem, Nat.reduceAdd, Nat.reduceSub, Nat.reduceLeDiff, ↓reduceIte, decide_eq_true_eq, if_true, if_false, Bool.false_eq_true, Int.lt_irrefl, implies_true, true_and, and_true, eq_self, and_self, beq_self_eq_true]
      exact .rfl
    · unfold Lpv at q1 ⊢
      refine ACalls.of_code T.hm (n := 19) Try.func42 rfl rfl rfl rfl ?_; simp only [List.replicate_succ, List.replicate_zero, List.cons_append, List.nil_append]
      simp (maxSteps := 1000000) (disch := first | exact sd | fail) only [go_sem, Nat.reduceAdd, Nat.reduceSub, Nat.reduceLeDiff, ↓reduceIte, decide_eq_true_eq, if_true, if_false, Bool.false_eq_true, Int.lt_irrefl, implies_true, true_and, and_true, eq_self, and_self, beq_self_eq_true]
      refine PC.step (q1) fun m1 j1 => ?_
      try simp only [Heap.next_push, Heap.next_set, Heap.next_kill, next_bump, next_E0] at j1
      simp (maxSteps := 1000000) (disch := first | exact sd | fail) only [go_sem, Nat.reduceAdd, Nat.reduceSub, Nat.reduceLeDiff, ↓reduceIte, decide_eq_true_eq, if_true, if_false, Bool.false_eq_true, Int.lt_irrefl, implies_true, true_and, and_true, eq_self, and_self, beq_self_eq_true, h2]
      rw [Bool.and_false]
      exact .rfl
end Go.Abs

/- Linear problems: noughts, sameness, the sides. -/
set_option linter.unusedVariables false
set_option linter.unusedSimpArgs false
namespace Go.Abs
open Go Go.Proofs
set_option maxRecDepth 100000
set_option maxHeartbeats 4000000
theorem p221 {n : Nat} (hn : n ≤ 200) : PC Try.prog 121 [.int .i64 n] (Vv eQ (List.replicate n eQ.d)) := by
  refine PC.of (.cons (.ground rfl) .nil) pu_Qs fun N hN => ?_
  refine ACalls.of_code T.hm (n := 4) Try.func121 rfl rfl rfl rfl ?_; simp only [List.replicate_succ, List.replicate_zero, List.cons_append, List.nil_append]
  simp (maxSteps := 1000000) (disch := first | exact sd | fail) only [go_sem, Nat.reduceAdd, Nat.reduceSub, Nat.reduceLeDiff, ↓reduceIte, decide_eq_true_eq, if_true, if_false, Bool.false_eq_true, Int.lt_irrefl, implies_true, true_and, and_true, eq_self, and_self, beq_self_eq_true, aMk_int, Int.toNat_natCast]
  rw [eQo_none]
  have h : FzRel Try.prog ((E0 N).push (.row true 47 ((List.replicate n none).flatMap eQo.enc))) (Vv eQ ((List.replicate n none).map oq)) (.slice (some ⟨N, 0, none⟩) n n) := by
    unfold Vv
    rw [List.length_map, List.length_replicate]
    refine .sl (es := 4) (n := n) (by decide) ?_ (FzRels.nz (nz_oq _))
    have := Sl.row (P := Try.prog) (H := (E0 N).push (.row true 47 ((List.replicate n none).flatMap eQo.enc))) (es := 4) (off := 0) (n := n) (c := n) (get_push_self (E0 N) _) (by simp) (.inr T.s55) (.inr ⟨Nat.le_refl _, by unfold unk; omega⟩) (by rw [eQo.flat_length, List.length_replicate]; show 0 + n * 4 ≤ n * 4; omega)
    rw [List.drop_zero, List.take_of_length_le (by rw [eQo.flat_length, List.length_replicate]; exact Nat.le_refl _)] at this
    exact this
  rw [List.map_replicate] at h
  exact h
theorem p244 {a b : RQ} (ha : Rz a) (hb : Rz b) : PC Try.prog 144 [.agg ⟨eQ.enc a⟩, .agg ⟨eQ.enc b⟩] (.bool (decide (vq a = vq b))) := by
  refine PC.of (.cons pu_r4 (.cons pu_r4 .nil)) (.ground rfl) fun N hN => ?_
  have q := p177v ha hb
  change PC Try.prog 118 [R4 _ _ _ _, R4 _ _ _ _] (.int .i64 (cq (vq a) (vq b))) at q
  have e : decide (cq (vq a) (vq b) = 0) = decide (vq a = vq b) := decide_eq_decide.2 cq_eq
  change ACalls _ _ [R4 _ _ _ _, R4 _ _ _ _] _ _
  unfold R4 at *
  generalize cq (vq a) (vq b) = z at *
  refine ACalls.of_code T.hm (n := 7) Try.func144 rfl rfl rfl rfl ?_; simp only [List.replicate_succ, List.replicate_zero, List.cons_append, List.nil_append]
  simp (maxSteps := 1000000) (disch := first | exact sd | fail) only [go_sem, Nat.reduceAdd, Nat.reduceSub, Nat.reduceLeDiff, ↓reduceIte, decide_eq_true_eq, if_true, if_false, Bool.false_eq_true, Int.lt_irrefl, implies_true, true_and, and_true, eq_self, and_self, beq_self_eq_true]
  refine PC.step (q) fun m1 j1 => ?_
  try simp only [Heap.next_push, Heap.next_set, Heap.next_kill, next_bump, next_E0] at j1
  simp (maxSteps := 1000000) (disch := first | exact sd | fail) only [go_sem, Nat.reduceAdd, Nat.reduceSub, Nat.reduceLeDiff, ↓reduceIte, decide_eq_true_eq, if_true, if_false, Bool.false_eq_true, Int.lt_irrefl, implies_true, true_and, and_true, eq_self, and_self, beq_self_eq_true]
  rw [e]
  exact .rfl
theorem p242 {a : RQ} (ha : Rz a) : PC Try.prog 142 [.agg ⟨eQ.enc a⟩] (.bool (decide (vq a < 0))) := by
  refine PC.of (.cons pu_r4 .nil) (.ground rfl) fun N hN => ?_
  have q := p177v ha Rz.d
  change PC Try.prog 118 [R4 _ _ _ _, R4 false [] false []] (.int .i64 (cq (vq a) (vq eQ.d))) at q
  rw [vq_d] at q
  have e : decide (cq (vq a) 0 < 0) = decide (vq a < 0) := decide_eq_decide.2 cq_neg
  change ACalls _ _ [R4 _ _ _ _] _ _
  generalize cq (vq a) 0 = z at *
  unfold R4 at q ⊢
  refine ACalls.of_code T.hm (n := 6) Try.func142 rfl rfl rfl rfl ?_; simp only [List.replicate_succ, List.replicate_zero, List.cons_append, List.nil_append]
  simp (maxSteps := 1000000) (disch := first | exact sd | fail) only [go_sem, Nat.reduceAdd, Nat.reduceSub, Nat.reduceLeDiff, ↓reduceIte, decide_eq_true_eq, if_true, if_false, Bool.false_eq_true, Int.lt_irrefl, implies_true, true_and, and_true, eq_self, and_self, beq_self_eq_true]
  refine ACalls.nz nzQ1 ?_
  unfold R4
  refine PC.step (q) fun m1 j1 => ?_
  try simp only [Heap.next_push, Heap.next_set, Heap.next_kill, next_bump, next_E0] at j1
  simp (maxSteps := 1000000) (disch := first | exact sd | fail) only [go_sem, Nat.reduceAdd, Nat.reduceSub, Nat.reduceLeDiff, ↓reduceIte, decide_eq_true_eq, if_true, if_false, Bool.false_eq_true, Int.lt_irrefl, implies_true, true_and, and_true, eq_self, and_self, beq_self_eq_true]
  rw [e]
  exact .rfl
theorem c243 {a b : List RQ} (ha : Rw a) (hb : Rw b) : PC Try.prog 143 [Vv eQ a, Vv eQ b, .func (.func 144) ⟨[]⟩ ⟨[]⟩] (.bool (sameV a b)) := by
  refine PC.of (.cons pu_Qs (.cons pu_Qs (.cons (.fn .nil .nil) .nil))) (.ground rfl) fun N hN => ?_
  have hn := ha.1
  unfold sameV
  refine ACalls.of_code T.hm (n := 29) Try.func143 rfl rfl rfl rfl ?_; simp only [List.replicate_succ, List.replicate_zero, List.cons_append, List.nil_append]
  by_cases hl : (a.length : Int) = b.length
  · have hl' : a.length = b.length := by omega
    rw [decide_eq_true hl', Bool.true_and]
    simp (maxSteps := 1000000) (disch := first | exact sd | fail) only [go_sem, Nat.reduceAdd, Nat.reduceSub, Nat.reduceLeDiff, ↓reduceIte, decide_eq_true_eq, if_true, if_false, Bool.false_eq_true, Int.lt_irrefl, implies_true, true_and, and_true, eq_self, and_self, beq_self_eq_true, hl, ne_eq, not_true_eq_false]
    rw [← hl']
    refine aw_loopJ (σ := Nat) (fun k J => [J 0, Vv eQ b, .func (.func 144) ⟨[]⟩ ⟨[]⟩, J 3, J 4, J 5, .bool false, J 7, J 8, J 9, J 10, J 11, J 12, J 13, J 14, Vv eQ a, .int .i64 a.length, .int .i64 k, J 18, J 19, J 20, J 21, J 22, J 23, J 24, J 25, J 26, J 27, J 28, J 29, J 30, J 31]) (fun m k H1 => m = a.length - k ∧ k ≤ a.length ∧ ∀ i, i < k → ev a i = ev b i) a.length 0 rfl ⟨rfl, Nat.zero_le _, fun i hi => by omega⟩ ?_
    rintro m k J H1 ⟨rfl, hk, hall⟩
    by_cases h4 : (k : Int) < a.length
    · have h5 : (k : Int) < b.length := by omega
      have q1 := p244 (ha.getD k) (hb.getD k)
      change PC Try.prog 144 [R4 _ _ _ _, R4 _ _ _ _] (.bool (decide (ev a k = ev b k))) at q1
      unfold R4 at q1
      by_cases e : ev a k = ev b k
      · rw [decide_eq_true e] at q1
        simp (maxSteps := 1000000) (disch := first | exact sd | fail) only [go_sem, Nat.reduceAdd, Nat.reduceSub, Nat.reduceLeDiff, ↓reduceIte, decide_eq_true_eq, if_true, if_false, Bool.false_eq_true, Int.lt_irrefl, implies_true, true_and, and_true, eq_self, and_self, beq_self_eq_true, h4, h5, Int.toNat_natCast]
        refine PC.step (q1) fun m1 j1 => ?_
        try simp only [Heap.next_push, Heap.next_set, Heap.next_kill, next_bump, next_E0] at j1
        simp (maxSteps := 1000000) (disch := first | exact sd | fail) only [go_sem, Nat.reduceAdd, Nat.reduceSub, Nat.reduceLeDiff, ↓reduceIte, decide_eq_true_eq, if_true, if_false, Bool.false_eq_true, Int.lt_irrefl, implies_true, true_and, and_true, eq_self, and_self, beq_self_eq_true]
        refine IJ_intro (k := a.length - (k + 1)) (by omega) (k + 1) rfl ⟨rfl, by omega, fun i hi => ?_⟩
        rcases Nat.lt_or_ge i k with h6 | h6
        · exact hall i h6
        · have : i = k := by omega
          subst this; exact e
      · rw [decide_eq_false e] at q1
        simp (maxSteps := 1000000) (disch := first | exact sd | fail) only [go_sem, Nat.reduceAdd, Nat.reduceSub, Nat.reduceLeDiff, ↓reduceIte, decide_eq_true_eq, if_true, if_false, Bool.false_eq_true, Int.lt_irrefl, implies_true, true_and, and_true, eq_self, and_self, beq_self_eq_true, h4, h5, Int.toNat_natCast]
        refine PC.step (q1) fun m1 j1 => ?_
        try simp only [Heap.next_push, Heap.next_set, Heap.next_kill, next_bump, next_E0] at j1
        simp (maxSteps := 1000000) (disch := first | exact sd | fail) only [go_sem, Nat.reduceAdd, Nat.reduceSub, Nat.reduceLeDiff, ↓reduceIte, decide_eq_true_eq, if_true, if_false, Bool.false_eq_true, Int.lt_irrefl, implies_true, true_and, and_true, eq_self, and_self, beq_self_eq_true]
        have : (List.range a.length).all (fun i => decide (ev a i = ev b i)) = false := by
          rw [List.all_eq_false]
          exact ⟨k, List.mem_range.2 (by omega), by simp [e]⟩
        rw [this]
        exact .rfl
    · simp (maxSteps := 1000000) (disch := first | exact sd | fail) only [go_sem, Nat.reduceAdd, Nat.reduceSub, Nat.reduceLeDiff, ↓reduceIte, decide_eq_true_eq, if_true, if_false, Bool.false_eq_true, Int.lt_irrefl, implies_true, true_and, and_true, eq_self, and_self, beq_self_eq_true, h4]
      have : (List.range a.length).all (fun i => decide (ev a i = ev b i)) = true := by
        simp only [List.all_eq_true, List.mem_range, decide_eq_true_eq]
        intro i hi; exact hall i (by omega)
      rw [this]
      exact .rfl
  · have hl' : ¬ a.length = b.length := by omega
    rw [decide_eq_false hl', Bool.false_and]
    simp (maxSteps := 1000000) (disch := first | exact sd | fail) only [go_sem, Nat.reduceAdd, Nat.reduceSub, Nat.reduceLeDiff, ↓reduceIte, decide_eq_true_eq, if_true, if_false, Bool.false_eq_true, Int.lt_irrefl, implies_true, true_and, and_true, eq_self, and_self, beq_self_eq_true, hl, ne_eq, not_false_eq_true]
    exact .rfl
theorem p220 {a b : List RQ} (ha : Rw a) (hb : Rw b) : PC Try.prog 120 [Vv eQ a, Vv eQ b] (.bool (sameV a b)) := by
  refine PC.of (.cons pu_Qs (.cons pu_Qs .nil)) (.ground rfl) fun N hN => ?_
  refine ACalls.of_code T.hm (n := 6) Try.func120 rfl rfl rfl rfl ?_; simp only [List.replicate_succ, List.replicate_zero, List.cons_append, List.nil_append]
  simp (maxSteps := 1000000) (disch := first | exact sd | fail) only [go_sem, Nat.reduceAdd, Nat.reduceSub, Nat.reduceLeDiff, ↓reduceIte, decide_eq_true_eq, if_true, if_false, Bool.false_eq_true, Int.lt_irrefl, implies_true, true_and, and_true, eq_self, and_self, beq_self_eq_true]
  refine PC.step (c243 ha hb) fun m1 j1 => ?_
  try simp only [Heap.next_push, Heap.next_set, Heap.next_kill, next_bump, next_E0] at j1
  simp (maxSteps := 1000000) (disch := first | exact sd | fail) only [go_sem, Nat.reduceAdd, Nat.reduceSub, Nat.reduceLeDiff, ↓reduceIte, decide_eq_true_eq, if_true, if_false, Bool.false_eq_true, Int.lt_irrefl, implies_true, true_and, and_true, eq_self, and_self, beq_self_eq_true]
  exact .rfl
def negV (y : List RQ) : Bool := (List.range y.length).any fun i => decide (ev y i < 0)
theorem negV_iff {y : List RQ} : negV y = true ↔ ∃ i, i < y.length ∧ ev y i < 0 := by
  unfold negV
  rw [List.any_eq_true]
  exact ⟨fun ⟨i, h1, h2⟩ => ⟨i, List.mem_range.1 h1, of_decide_eq_true h2⟩, fun ⟨i, h1, h2⟩ => ⟨i, List.mem_range.2 h1, decide_eq_true h2⟩⟩
theorem c251 {y : List RQ} (hy : Rw y) : PK Try.prog 153 [Vv eQ y, .func (.func 142) ⟨[]⟩ ⟨[]⟩] fun v => ∃ k : Int, v = .int .i64 k ∧ (0 ≤ k ↔ ∃ i, i < y.length ∧ ev y i < 0) := by
  refine PC.of' (.cons pu_Qs (.cons (.fn .nil .nil) .nil)) fun N hN => ?_
  have hn := hy.1
  refine ACalls.of_code T.hm (n := 17) Try.func153 rfl rfl rfl rfl ?_; simp only [List.replicate_succ, List.replicate_zero, List.cons_append, List.nil_append]
  simp (maxSteps := 1000000) (disch := first | exact sd | fail) only [go_sem, Nat.reduceAdd, Nat.reduceSub, Nat.reduceLeDiff, ↓reduceIte, decide_eq_true_eq, if_true, if_false, Bool.false_eq_true, Int.lt_irrefl, implies_true, true_and, and_true, eq_self, and_self, beq_self_eq_true]
  refine aw_loopJ (σ := Nat) (fun s J => [Vv eQ y, .func (.func 142) ⟨[]⟩ ⟨[]⟩, J 2, J 3, .int .i64 0, J 5, J 6, .int .i64 y.length, .int .i64 s, J 9, J 10, J 11, J 12, J 13, J 14, J 15, J 16, J 17, J 18]) (fun i s H1 => i = y.length - s ∧ s ≤ y.length ∧ ∀ j, j < s → ¬ ev y j < 0) y.length 0 rfl ⟨rfl, Nat.zero_le _, fun j hj => by omega⟩ ?_
  rintro i k J H1 ⟨rfl, hk, hall⟩
  by_cases h4 : (k : Int) < y.length
  · have q1 := p242 (hy.getD k)
    change PC Try.prog 142 [R4 _ _ _ _] (.bool (decide (ev y k < 0))) at q1
    unfold R4 at q1
    by_cases h5 : ev y k < 0
    · rw [decide_eq_true h5] at q1
      simp (maxSteps := 1000000) (disch := first | exact sd | fail) only [go_sem, Nat.reduceAdd, Nat.reduceSub, Nat.reduceLeDiff, ↓reduceIte, decide_eq_true_eq, if_true, if_false, Bool.false_eq_true, Int.lt_irrefl, implies_true, true_and, and_true, eq_self, and_self, beq_self_eq_true, h4, Int.toNat_natCast]
      refine PC.step (q1) fun m1 j1 => ?_
      try simp only [Heap.next_push, Heap.next_set, Heap.next_kill, next_bump, next_E0] at j1
      simp (maxSteps := 1000000) (disch := first | exact sd | fail) only [go_sem, Nat.reduceAdd, Nat.reduceSub, Nat.reduceLeDiff, ↓reduceIte, decide_eq_true_eq, if_true, if_false, Bool.false_eq_true, Int.lt_irrefl, implies_true, true_and, and_true, eq_self, and_self, beq_self_eq_true]
      exact ⟨_, .rfl, .ground rfl, k, rfl, fun _ => ⟨k, by omega, h5⟩, fun _ => by omega⟩
    · rw [decide_eq_false h5] at q1
      simp (maxSteps := 1000000) (disch := first | exact sd | fail) only [go_sem, Nat.reduceAdd, Nat.reduceSub, Nat.reduceLeDiff, ↓reduceIte, decide_eq_true_eq, if_true, if_false, Bool.false_eq_true, Int.lt_irrefl, implies_true, true_and, and_true, eq_self, and_self, beq_self_eq_true, h4, Int.toNat_natCast]
      refine PC.step (q1) fun m1 j1 => ?_
      try simp only [Heap.next_push, Heap.next_set, Heap.next_kill, next_bump, next_E0] at j1
      simp (maxSteps := 1000000) (disch := first | exact sd | fail) only [go_sem, Nat.reduceAdd, Nat.reduceSub, Nat.reduceLeDiff, ↓reduceIte, decide_eq_true_eq, if_true, if_false, Bool.false_eq_true, Int.lt_irrefl, implies_true, true_and, and_true, eq_self, and_self, beq_self_eq_true]
      refine IJ_intro (k := y.length - (k + 1)) (by omega) (k + 1) rfl ⟨rfl, by omega, fun j hj => ?_⟩
      rcases Nat.lt_or_ge j k with h6 | h6
      · exact hall j h6
      · have : j = k := by omega
        subst this; exact h5
  · simp (maxSteps := 1000000) (disch := first | exact sd | fail) only [go_sem, Nat.reduceAdd, Nat.reduceSub, Nat.reduceLeDiff, ↓reduceIte, decide_eq_true_eq, if_true, if_false, Bool.false_eq_true, Int.lt_irrefl, implies_true, true_and, and_true, eq_self, and_self, beq_self_eq_true, h4]
    exact ⟨_, .rfl, .ground rfl, -1, rfl, fun h => by omega, fun ⟨j, hj, h⟩ => absurd h (hall j (by omega))⟩
theorem p231 {y : List RQ} (hy : Rw y) : PC Try.prog 141 [Vv eQ y, .func (.func 142) ⟨[]⟩ ⟨[]⟩] (.bool (negV y)) := by
  refine PC.of (.cons pu_Qs (.cons (.fn .nil .nil) .nil)) (.ground rfl) fun N hN => ?_
  refine ACalls.of_code T.hm (n := 7) Try.func141 rfl rfl rfl rfl ?_; simp only [List.replicate_succ, List.replicate_zero, List.cons_append, List.nil_append]
  simp (maxSteps := 1000000) (disch := first | exact sd | fail) only [go_sem, Nat.reduceAdd, Nat.reduceSub, Nat.reduceLeDiff, ↓reduceIte, decide_eq_true_eq, if_true, if_false, Bool.false_eq_true, Int.lt_irrefl, implies_true, true_and, and_true, eq_self, and_self, beq_self_eq_true]
  refine PK.step (c251 hy) ?_
  rintro _ m1 ⟨k, rfl, hk⟩ j1
  simp (maxSteps := 1000000) (disch := first | exact sd | fail) only [go_sem, Nat.reduceAdd, Nat.reduceSub, Nat.reduceLeDiff, ↓reduceIte, decide_eq_true_eq, if_true, if_false, Bool.false_eq_true, Int.lt_irrefl, implies_true, true_and, and_true, eq_self, and_self, beq_self_eq_true]
  have e : decide (0 ≤ k) = negV y := by
    rw [Bool.eq_iff_iff, decide_eq_true_eq, hk, negV_iff]
  rw [e]
  exact .rfl
end Go.Abs
