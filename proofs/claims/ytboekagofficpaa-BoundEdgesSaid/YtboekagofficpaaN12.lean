/- Limbs: which are more, sums, differences. -/
import Derived.Test.YtboekagofficpaaP1
set_option linter.unusedVariables false
set_option linter.unusedSimpArgs false
namespace Go.Abs
open Go Go.Proofs
set_option maxRecDepth 100000
set_option maxHeartbeats 4000000
set_option linter.unusedSimpArgs false

def pl143_7 : Plan := ⟨[0, 1, 2, 3, 4, 5, 6, 7], [(8, [], [9])]⟩
theorem e151 {H : Heap} {x : Int} : ACalls Try.prog 45 [.int .u64 x] H fun r H' => r = .int .u32 (x % 4294967296) ∧ H' = H := by
  refine ACalls.of_code T.hm (n := 4) Try.func45 rfl rfl rfl rfl ?_; simp only [List.replicate_succ, List.replicate_zero, List.cons_append, List.nil_append]
  simp (maxSteps := 1000000) (disch := first | exact sd | fail) only [go_sem, Nat.reduceAdd, Nat.reduceSub, Nat.reduceLeDiff, ↓reduceIte, decide_eq_true_eq, if_true, if_false, Bool.false_eq_true, Int.lt_irrefl, wrap_u32]
  exact ⟨by trivial, by trivial⟩

theorem UO.append1 {H0 H1 : Heap} {sl : Value} {l : List Int} {x : Int} (h : UO Try.prog H0 H1 sl l) (hle : Hle H0 H1) (hs : l.length + 1 ≤ 35184372088732) :
    aAppend Try.prog (H1.push (.row true 66 [.int .u32 x])) #[45, 45] sl (.slice (some ⟨H1.next, 0, none⟩) 1 1) = some (apV Try.prog (H1.push (.row true 66 [.int .u32 x])) #[45, 45] sl (.slice (some ⟨H1.next, 0, none⟩) 1 1), apH Try.prog (H1.push (.row true 66 [.int .u32 x])) #[45, 45] sl (.slice (some ⟨H1.next, 0, none⟩) 1 1)) ∧
      UO Try.prog H0 (apH Try.prog (H1.push (.row true 66 [.int .u32 x])) #[45, 45] sl (.slice (some ⟨H1.next, 0, none⟩) 1 1)) (apV Try.prog (H1.push (.row true 66 [.int .u32 x])) #[45, 45] sl (.slice (some ⟨H1.next, 0, none⟩) 1 1)) (l ++ [x]) ∧ Hle H0 (apH Try.prog (H1.push (.row true 66 [.int .u32 x])) #[45, 45] sl (.slice (some ⟨H1.next, 0, none⟩) 1 1)) := by
  have hx : U Try.prog (H1.push (.row true 66 [.int .u32 x])) (.slice (some ⟨H1.next, 0, none⟩) 1 1) [x] := (UO.fresh (H0 := H1) (l := [x]) Hle.rfl rfl (by simp [unk]) (by simp)).u
  have h1 : UO Try.prog H0 (H1.push (.row true 66 [.int .u32 x])) sl l := Ow.mono h (Hle.push0 _)
  obtain ⟨h2, h3, h4, _⟩ := h1.append (hle.push _) hx (by simpa using hs)
  exact ⟨h2, h3, h4⟩

theorem c207 {H : Heap} {x y : Int} : ACalls Try.prog 78 [.int .i64 x, .int .i64 y] H fun r H' => r = .int .i64 (sg (x - y)) ∧ H' = H := by
  refine ACalls.of_code T.hm (n := 11) Try.func78 rfl rfl rfl rfl ?_; simp only [List.replicate_succ, List.replicate_zero, List.cons_append, List.nil_append]
  by_cases h1 : x < y
  · simp (maxSteps := 1000000) (disch := first | exact sd | fail) only [go_sem, Nat.reduceAdd, Nat.reduceSub, Nat.reduceLeDiff, ↓reduceIte, decide_eq_true_eq, if_true, if_false, Bool.false_eq_true, Int.lt_irrefl, h1]
    exact ⟨by rw [sg, if_pos (by omega)], by trivial⟩
  · by_cases h2 : y < x
    · simp (maxSteps := 1000000) (disch := first | exact sd | fail) only [go_sem, Nat.reduceAdd, Nat.reduceSub, Nat.reduceLeDiff, ↓reduceIte, decide_eq_true_eq, if_true, if_false, Bool.false_eq_true, Int.lt_irrefl, h1, h2]
      exact ⟨by rw [sg, if_neg (by omega), if_pos (by omega)], by trivial⟩
    · simp (maxSteps := 1000000) (disch := first | exact sd | fail) only [go_sem, Nat.reduceAdd, Nat.reduceSub, Nat.reduceLeDiff, ↓reduceIte, decide_eq_true_eq, if_true, if_false, Bool.false_eq_true, Int.lt_irrefl, h1, h2]
      exact ⟨by rw [sg, if_neg (by omega), if_neg (by omega)], by trivial⟩
theorem c208 {H : Heap} {x y : Int} : ACalls Try.prog 79 [.int .u32 x, .int .u32 y] H fun r H' => r = .int .i64 (sg (x - y)) ∧ H' = H := by
  refine ACalls.of_code T.hm (n := 11) Try.func79 rfl rfl rfl rfl ?_; simp only [List.replicate_succ, List.replicate_zero, List.cons_append, List.nil_append]
  by_cases h1 : x < y
  · simp (maxSteps := 1000000) (disch := first | exact sd | fail) only [go_sem, Nat.reduceAdd, Nat.reduceSub, Nat.reduceLeDiff, ↓reduceIte, decide_eq_true_eq, if_true, if_false, Bool.false_eq_true, Int.lt_irrefl, h1]
    exact ⟨by rw [sg, if_pos (by omega)], by trivial⟩
  · by_cases h2 : y < x
    · simp (maxSteps := 1000000) (disch := first | exact sd | fail) only [go_sem, Nat.reduceAdd, Nat.reduceSub, Nat.reduceLeDiff, ↓reduceIte, decide_eq_true_eq, if_true, if_false, Bool.false_eq_true, Int.lt_irrefl, h1, h2]
      exact ⟨by rw [sg, if_neg (by omega), if_pos (by omega)], by trivial⟩
    · simp (maxSteps := 1000000) (disch := first | exact sd | fail) only [go_sem, Nat.reduceAdd, Nat.reduceSub, Nat.reduceLeDiff, ↓reduceIte, decide_eq_true_eq, if_true, if_false, Bool.false_eq_true, Int.lt_irrefl, h1, h2]
      exact ⟨by rw [sg, if_neg (by omega), if_neg (by omega)], by trivial⟩

theorem sg_lt {x y z w : Int} (h : x < y) (h' : z < w) : sg (x - y) = sg (z - w) := by simp [sg]; omega
theorem sg_gt {x y z w : Int} (h : y < x) (h' : w < z) : sg (x - y) = sg (z - w) := by simp [sg]; omega
theorem sg_len {a b : List Int} (ha : Lim a) (hb : Lim b) (ta : Top a) (tb : Top b) (h : a.length ≠ b.length) : sg ((a.length : Int) - b.length) = sg (val a - val b) := by
  rcases Nat.lt_or_gt_of_ne h with h | h
  · have := val_lt_len ha hb tb h
    simp [sg]; omega
  · have := val_lt_len hb ha ta h
    simp [sg]; omega
theorem sg_at {a b : List Int} (ha : Lim a) (hb : Lim b) (he : a.length = b.length) {k : Nat} (hk : k < a.length) (hd : a.drop (k + 1) = b.drop (k + 1)) (h : a.getD k 0 ≠ b.getD k 0) : sg (a.getD k 0 - b.getD k 0) = sg (val a - val b) := by
  rcases Int.lt_or_gt_of_ne h with h | h
  · exact sg_lt h (val_lt_at ha hb he hk hd h)
  · exact sg_gt h (val_lt_at hb ha he.symm (by omega) hd.symm h)
theorem c143 {H : Heap} {sa sb : Value} {a b : List Int} (hu : U Try.prog H sa a) (hv : U Try.prog H sb b) (ha : Lim a) (hb : Lim b) (ta : Top a) (tb : Top b) (hl : a.length < 2 ^ 62) (hl2 : b.length < 2 ^ 62) : ACalls Try.prog 73 [sa, sb] H fun r H' => r = .int .i64 (sg (val a - val b)) ∧ H' = H := by
  refine ACalls.of_code T.hm (n := 39) Try.func73 rfl rfl rfl rfl ?_; simp only [List.replicate_succ, List.replicate_zero, List.cons_append, List.nil_append]
  by_cases h0 : a.length = b.length
  rotate_left
  · have h1 : (a.length : Int) ≠ (b.length : Int) := by omega
    simp (maxSteps := 1000000) (disch := first | exact sd | fail) only [go_sem, Nat.reduceAdd, Nat.reduceSub, Nat.reduceLeDiff, ↓reduceIte, decide_eq_true_eq, if_true, if_false, Bool.false_eq_true, Int.lt_irrefl, aw_drawn (id := 6), aw_drawn' (id := 6), aw_plan (id := 7) pl143_7, pl143_7, hu.len T.i22, hu.addr Try.underlying45 T.s50 T.z50, hu.loadh T.r50,  hv.len T.i22,  hv.addr Try.underlying45 T.s50 T.z50,  hv.loadh T.r50, h1, ne_eq, not_false_eq_true, not_true_eq_false]
    refine c207.mono ?_
    rintro _ _ ⟨rfl, rfl⟩
    simp (maxSteps := 1000000) (disch := first | exact sd | fail) only [go_sem, Nat.reduceAdd, Nat.reduceSub, Nat.reduceLeDiff, ↓reduceIte, decide_eq_true_eq, if_true, if_false, Bool.false_eq_true, Int.lt_irrefl, aw_drawn (id := 6), aw_drawn' (id := 6), aw_plan (id := 7) pl143_7, pl143_7]
    exact ⟨by rw [sg_len ha hb ta tb h0], by trivial⟩
  have h1 : (a.length : Int) = (b.length : Int) := by omega
  simp (maxSteps := 1000000) (disch := first | exact sd | fail) only [go_sem, Nat.reduceAdd, Nat.reduceSub, Nat.reduceLeDiff, ↓reduceIte, decide_eq_true_eq, if_true, if_false, Bool.false_eq_true, Int.lt_irrefl, aw_drawn (id := 6), aw_drawn' (id := 6), aw_plan (id := 7) pl143_7, pl143_7, hu.len T.i22, hu.addr Try.underlying45 T.s50 T.z50, hu.loadh T.r50,  hv.len T.i22,  hv.addr Try.underlying45 T.s50 T.z50,  hv.loadh T.r50, h1, ne_eq, not_false_eq_true, not_true_eq_false]
  rw [← h1]
  refine aw_loopJ (σ := Nat) (fun k J => [sa, sb, J 2, J 3, .int .i64 0, .int .i64 (k - 1), J 6, J 7, J 8, J 9, J 10, J 11, J 12, J 13, J 14, J 15, J 16, J 17, J 18, J 19, J 20, J 21, J 22, J 23, J 24, J 25, J 26, J 27, J 28, J 29, J 30, J 31, J 32, J 33, J 34, J 35, J 36, J 37, J 38, J 39, J 40]) (fun n k H1 => n = k ∧ H1 = H ∧ k ≤ a.length ∧ a.drop k = b.drop k) a.length a.length rfl ⟨rfl, rfl, Nat.le_refl _, by rw [List.drop_length, h0, List.drop_length]⟩ ?_
  rintro n k J H1 ⟨rfl, rfl, hk, hd⟩
  cases n with
  | zero =>
    simp (maxSteps := 1000000) (disch := first | exact sd | fail) only [go_sem, Nat.reduceAdd, Nat.reduceSub, Nat.reduceLeDiff, ↓reduceIte, decide_eq_true_eq, if_true, if_false, Bool.false_eq_true, Int.lt_irrefl, aw_drawn (id := 6), aw_drawn' (id := 6), aw_plan (id := 7) pl143_7, pl143_7, show ¬ (0 : Int) ≤ ((0 : Nat) : Int) - 1 by omega]
    rw [List.drop_zero, List.drop_zero] at hd
    subst hd
    exact ⟨by rw [Int.sub_self]; rfl, by trivial⟩
  | succ k =>
    have e1 : (((k + 1 : Nat) : Int) - 1).toNat = k := by omega
    by_cases h2 : a.getD k 0 = b.getD k 0
    · simp (maxSteps := 1000000) (disch := first | exact sd | fail) only [go_sem, Nat.reduceAdd, Nat.reduceSub, Nat.reduceLeDiff, ↓reduceIte, decide_eq_true_eq, if_true, if_false, Bool.false_eq_true, Int.lt_irrefl, aw_drawn (id := 6), aw_drawn' (id := 6), aw_plan (id := 7) pl143_7, pl143_7, show (0 : Int) ≤ ((k + 1 : Nat) : Int) - 1 by omega, hu.len T.i22, hu.addr Try.underlying45 T.s50 T.z50, hu.loadh T.r50,  hv.len T.i22,  hv.addr Try.underlying45 T.s50 T.z50,  hv.loadh T.r50, e1, h2, ne_eq, not_false_eq_true, not_true_eq_false]
      refine IJ_intro (k := k) (by omega) k ?_ ⟨rfl, rfl, by omega, ?_⟩
      · rw [show ((k + 1 : Nat) : Int) - 1 - 1 = (k : Int) - 1 by omega]; rfl
      · rw [drop_getD (by omega), drop_getD (a := b) (by omega), h2, hd]
    · simp (maxSteps := 1000000) (disch := first | exact sd | fail) only [go_sem, Nat.reduceAdd, Nat.reduceSub, Nat.reduceLeDiff, ↓reduceIte, decide_eq_true_eq, if_true, if_false, Bool.false_eq_true, Int.lt_irrefl, aw_drawn (id := 6), aw_drawn' (id := 6), aw_plan (id := 7) pl143_7, pl143_7, show (0 : Int) ≤ ((k + 1 : Nat) : Int) - 1 by omega, hu.len T.i22, hu.addr Try.underlying45 T.s50 T.z50, hu.loadh T.r50,  hv.len T.i22,  hv.addr Try.underlying45 T.s50 T.z50,  hv.loadh T.r50, e1, h2, ne_eq, not_false_eq_true, not_true_eq_false, aw_plan (id := 7) ⟨[0, 1, 2, 3, 4, 5, 6, 7], [(8, [], [9])]⟩]
      refine c208.mono ?_
      rintro _ _ ⟨rfl, rfl⟩
      simp (maxSteps := 1000000) (disch := first | exact sd | fail) only [go_sem, Nat.reduceAdd, Nat.reduceSub, Nat.reduceLeDiff, ↓reduceIte, decide_eq_true_eq, if_true, if_false, Bool.false_eq_true, Int.lt_irrefl, aw_drawn (id := 6), aw_drawn' (id := 6), aw_plan (id := 7) pl143_7, pl143_7]
      exact ⟨by rw [sg_at ha hb h0 (by omega) hd h2], by trivial⟩

end Go.Abs
