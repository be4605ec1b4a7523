/- The document's Zone, Octagon; sameness of templates. -/
import Derived.Test.YtfadclnaahanmaaM7
set_option linter.unusedVariables false
set_option linter.unusedSimpArgs false
namespace Go.Abs
open Go Go.Proofs
set_option maxRecDepth 100000
set_option maxHeartbeats 4000000
def plM8_123_6 : Plan := ⟨[0, 1, 2, 3, 4, 5, 6, 7, 8, 9], [(10, [], [11])]⟩
theorem difI_len {n i m : Nat} : (difI n i m).length ≤ m := by
  induction m with
  | zero => exact Nat.le_refl _
  | succ m ih => rw [difI_succ, List.length_append]; split <;> simp <;> omega
theorem difP_len {n m : Nat} : (difP n m).length ≤ m * n := by
  induction m with
  | zero => exact Nat.zero_le _
  | succ m ih =>
    rw [difP_succ, List.length_append, Nat.add_mul, Nat.one_mul]
    have := difI_len (n := n) (i := m) (m := n)
    omega
theorem bthI_len {n i m : Nat} : (bthI n i m).length = 4 * m := by
  induction m with
  | zero => rfl
  | succ m ih => rw [bthI_succ, List.length_append, ih]; show 4 * m + 4 = _; omega
theorem bthP_len {n m : Nat} : (bthP n m).length ≤ m * (4 * n) := by
  induction m with
  | zero => exact Nat.zero_le _
  | succ m ih =>
    rw [bthP_succ, List.length_append, bthI_len, Nat.add_mul, Nat.one_mul]
    have : 4 * (n - (m + 1)) ≤ 4 * n := by omega
    omega
theorem RO.len {H0 H : Heap} {sl : Value} {l : List (List RQ)} (h : RO H0 H sl l) : aLen Try.prog 23 sl = some (.int .i64 l.length) := VO.len h T.s70 T.i72
theorem p127 {n : Int} : PC Try.prog 17 [.int .i64 n] (Tv ((sgl (slt n) ++ dif (slt n)).take 40)) := by
  refine PC.of (.cons (.ground rfl) .nil) pu_T fun N hN => ?_
  have hs := slt_le n
  have hss : slt (slt n : Nat) = slt n := by unfold slt; omega
  refine ACalls.of_code T.hm (n := 32) Try.func17 rfl rfl rfl rfl ?_; simp only [List.replicate_succ, List.replicate_zero, List.cons_append, List.nil_append]
  simp (maxSteps := 1000000) (disch := first | exact sd | fail) only [go_sem, Nat.reduceAdd, Nat.reduceSub, Nat.reduceLeDiff, ↓reduceIte, decide_eq_true_eq, if_true, if_false, Bool.false_eq_true, Int.lt_irrefl, implies_true, true_and, and_true, eq_self, and_self, beq_self_eq_true]
  refine PC.step (p193) fun m1 j1 => ?_
  try simp only [Heap.next_push, Heap.next_set, Heap.next_kill, next_bump, next_E0] at j1
  simp (maxSteps := 1000000) (disch := first | exact sd | fail) only [go_sem, Nat.reduceAdd, Nat.reduceSub, Nat.reduceLeDiff, ↓reduceIte, decide_eq_true_eq, if_true, if_false, Bool.false_eq_true, Int.lt_irrefl, implies_true, true_and, and_true, eq_self, and_self, beq_self_eq_true]
  refine (c125 (by rw [next_bump]; omega)).mono ?_
  rintro v HC ⟨sl0, rfl, oC, lC⟩
  rw [hss] at oC
  generalize hw : slt n = w at *
  have nC := lC.next
  rw [next_bump] at nC
  try simp only [next_push, next_E0] at j1
  have gr : HC.get N = some (.row true 25 [.slice none 0 0]) := by rw [lC.get N (by rw [next_bump]; omega), get_bump]; exact get_push_self (E0 N) _
  have gC : ∀ c, c < N → HC.get c = (E0 N).get c := fun c hc => by rw [lC.get c (by rw [next_bump]; omega), get_bump, get_push_ne (by rw [next_E0]; omega)]
  generalize hHI : ((E0 N).push (.row true 25 [.slice none 0 0])).bump m1 = HI at *
  have nI : HI.next = m1 := by rw [← hHI]; rfl
  have hsl0 := oC.isSl
  simp (maxSteps := 1000000) (disch := first | exact sd | fail) only [go_sem, Nat.reduceAdd, Nat.reduceSub, Nat.reduceLeDiff, ↓reduceIte, decide_eq_true_eq, if_true, if_false, Bool.false_eq_true, Int.lt_irrefl, implies_true, true_and, and_true, eq_self, and_self, beq_self_eq_true]
  refine aw_loopJ (σ := Nat × Value) (fun s J => [.int .i64 w, J 1, .pointer (some ⟨N, 0, none⟩), s.2, .int .i64 s.1, J 5, J 6, J 7, J 8, J 9, J 10, J 11, J 12, J 13, J 14, J 15, J 16, J 17, J 18, J 19, J 20, J 21, J 22, J 23, J 24, J 25, J 26, J 27, J 28, J 29, J 30, J 31, J 32]) (fun m s H1 => m = w - s.1 ∧ s.1 ≤ w ∧ Hle HI H1 ∧ RO HI H1 s.2 (sgl w ++ difP w s.1)) w (0, sl0) rfl ⟨rfl, Nat.zero_le _, lC, by simpa [difP] using oC⟩ ?_
  rintro m ⟨s, sl⟩ J H1 ⟨rfl, hs1, hle, ho⟩
  simp only at hs1 ho
  by_cases h4 : (s : Int) < w
  · simp (maxSteps := 1000000) (disch := first | exact sd | fail) only [go_sem, Nat.reduceAdd, Nat.reduceSub, Nat.reduceLeDiff, ↓reduceIte, decide_eq_true_eq, if_true, if_false, Bool.false_eq_true, Int.lt_irrefl, implies_true, true_and, and_true, eq_self, and_self, beq_self_eq_true, h4]
    refine aw_loopJ (σ := Nat × Value) (fun q J => [.int .i64 w, J 1, .pointer (some ⟨N, 0, none⟩), q.2, .int .i64 s, .int .i64 q.1, J 6, J 7, J 8, J 9, J 10, J 11, J 12, J 13, J 14, J 15, J 16, J 17, J 18, J 19, J 20, J 21, J 22, J 23, J 24, J 25, J 26, J 27, J 28, J 29, J 30, J 31, J 32]) (fun m q H1 => m = w - q.1 ∧ q.1 ≤ w ∧ Hle HI H1 ∧ RO HI H1 q.2 (sgl w ++ difP w s ++ difI w s q.1)) w (0, sl) rfl ⟨rfl, Nat.zero_le _, hle, by simpa [difI] using ho⟩ ?_
    clear hle ho
    rintro m ⟨k, sl⟩ J H1 ⟨rfl, hk1, hle, ho⟩
    simp only at hk1 ho
    by_cases h5 : (k : Int) < w
    · by_cases h6 : (k : Int) = s
      · have e : k = s := by omega
        subst e
        simp (maxSteps := 1000000) (disch := first | exact sd | fail) only [go_sem, Nat.reduceAdd, Nat.reduceSub, Nat.reduceLeDiff, ↓reduceIte, decide_eq_true_eq, if_true, if_false, Bool.false_eq_true, Int.lt_irrefl, implies_true, true_and, and_true, eq_self, and_self, beq_self_eq_true, h5, ne_eq, not_true_eq_false]
        exact IJ_intro (k := w - (k + 1)) (by omega) (k + 1, sl) rfl ⟨rfl, by dsimp only; omega, hle, by rw [difI_succ, if_pos rfl, List.append_nil]; exact ho⟩
      · have pf {a : List RQ} : pFill (.slice none 0 0) 1 [(0, Vv eQ a)] = some [Vv eQ a] := rfl
        simp (maxSteps := 1000000) (disch := first | exact sd | fail) only [go_sem, Nat.reduceAdd, Nat.reduceSub, Nat.reduceLeDiff, ↓reduceIte, decide_eq_true_eq, if_true, if_false, Bool.false_eq_true, Int.lt_irrefl, implies_true, true_and, and_true, eq_self, and_self, beq_self_eq_true, h5, h6, ne_eq, not_false_eq_true]
        refine PC.step (p194d (n := w) (i := s) (k := k) (a := 1) (b := -1) hs (by omega) (by omega)) fun m2 j2 => ?_
        try simp only [Heap.next_push, Heap.next_set, Heap.next_kill, next_bump, next_E0] at j2
        have hle2 : Hle HI (H1.bump m2) := hle.bump j2
        have b1 := difP_len (n := w) (m := s)
        have b2 := difI_len (n := w) (i := s) (m := k)
        have b3 : s * w ≤ 36 := Nat.le_trans (Nat.mul_le_mul (show s ≤ 6 by omega) hs) (by decide)
        have b4 : (sgl w ++ difP w s ++ difI w s k).length ≤ 60 := by
          rw [List.length_append, List.length_append]
          show (sglP w w).length + _ + _ ≤ 60
          rw [sglP_len]; omega
        obtain ⟨v, H4, ea, oa, qa, na⟩ := VO.append1 (ho.bump j2) hle2 (r2 w s 1 k (-1)) (t := 23) Try.underlying23 (info_of_type Try.type45) rfl rfl T.s70 (by decide) T.o72 rfl (by omega) (by show _ * 24 ≤ _; omega)
        have ea : aAppend Try.prog ((H1.bump m2).push (.row true 45 [Vv eQ (r2 w s 1 k (-1))])) #[23, 23] sl (.slice (some ⟨m2, 0, none⟩) 1 1) = some (v, H4) := ea
        simp (maxSteps := 1000000) (disch := first | exact sd | fail) only [go_sem, Nat.reduceAdd, Nat.reduceSub, Nat.reduceLeDiff, ↓reduceIte, decide_eq_true_eq, if_true, if_false, Bool.false_eq_true, Int.lt_irrefl, implies_true, true_and, and_true, eq_self, and_self, beq_self_eq_true, pf, ea]
        exact IJ_intro (k := w - (k + 1)) (by omega) (k + 1, v) rfl ⟨rfl, by dsimp only; omega, qa, by rw [difI_succ, if_neg (by omega), ← List.append_assoc]; exact oa⟩
    · have e : k = w := by omega
      subst e
      simp (maxSteps := 1000000) (disch := first | exact sd | fail) only [go_sem, Nat.reduceAdd, Nat.reduceSub, Nat.reduceLeDiff, ↓reduceIte, decide_eq_true_eq, if_true, if_false, Bool.false_eq_true, Int.lt_irrefl, implies_true, true_and, and_true, eq_self, and_self, beq_self_eq_true, h5]
      exact IJ_intro (k := k - (s + 1)) (by omega) (s + 1, sl) rfl ⟨rfl, by dsimp only; omega, hle, by rw [difP_succ, ← List.append_assoc]; exact ho⟩
  · have e : s = w := by omega
    subst e
    have hle3 := hle.next
    have b1 := difP_len (n := s) (m := s)
    have b3 : s * s ≤ 36 := Nat.le_trans (Nat.mul_le_mul hs hs) (by decide)
    simp (maxSteps := 1000000) (disch := first | exact sd | fail) only [go_sem, Nat.reduceAdd, Nat.reduceSub, Nat.reduceLeDiff, ↓reduceIte, decide_eq_true_eq, if_true, if_false, Bool.false_eq_true, Int.lt_irrefl, implies_true, true_and, and_true, eq_self, and_self, beq_self_eq_true, h4]
    refine (c195 ho hle (by rw [List.length_append]; show (sglP s s).length + _ ≤ _; rw [sglP_len]; omega) (by omega)).mono ?_
    rintro v H' ⟨sl', rfl, o2, l2⟩
    have hsl := o2.isSl
    have g0 : H'.get N = some (.row true 25 [.slice none 0 0]) := by
      rw [l2.get _ (by omega), ← hHI, get_bump]; exact get_push_self (E0 N) _
    have l3 := l2.next
    simp (maxSteps := 1000000) (disch := first | exact sd | fail) only [go_sem, Nat.reduceAdd, Nat.reduceSub, Nat.reduceLeDiff, ↓reduceIte, decide_eq_true_eq, if_true, if_false, Bool.false_eq_true, Int.lt_irrefl, implies_true, true_and, and_true, eq_self, and_self, beq_self_eq_true, g0]
    exact .agg (.cons (VO.fz (o2.setO (by omega) _) T.s70 (by decide)) .nil)
theorem p129 {n : Int} : PC Try.prog 19 [.int .i64 n] (Tv ((sgl (slt n) ++ bth (slt n)).take 40)) := by
  refine PC.of (.cons (.ground rfl) .nil) pu_T fun N hN => ?_
  have hs := slt_le n
  have hss : slt (slt n : Nat) = slt n := by unfold slt; omega
  refine ACalls.of_code T.hm (n := 43) Try.func19 rfl rfl rfl rfl ?_; simp only [List.replicate_succ, List.replicate_zero, List.cons_append, List.nil_append]
  simp (maxSteps := 1000000) (disch := first | exact sd | fail) only [go_sem, Nat.reduceAdd, Nat.reduceSub, Nat.reduceLeDiff, ↓reduceIte, decide_eq_true_eq, if_true, if_false, Bool.false_eq_true, Int.lt_irrefl, implies_true, true_and, and_true, eq_self, and_self, beq_self_eq_true]
  refine PC.step (p193) fun m1 j1 => ?_
  try simp only [Heap.next_push, Heap.next_set, Heap.next_kill, next_bump, next_E0] at j1
  simp (maxSteps := 1000000) (disch := first | exact sd | fail) only [go_sem, Nat.reduceAdd, Nat.reduceSub, Nat.reduceLeDiff, ↓reduceIte, decide_eq_true_eq, if_true, if_false, Bool.false_eq_true, Int.lt_irrefl, implies_true, true_and, and_true, eq_self, and_self, beq_self_eq_true]
  refine (c125 (by rw [next_bump]; omega)).mono ?_
  rintro v HC ⟨sl0, rfl, oC, lC⟩
  rw [hss] at oC
  generalize hw : slt n = w at *
  have nC := lC.next
  rw [next_bump] at nC
  try simp only [next_push, next_E0] at j1
  have gr : HC.get N = some (.row true 25 [.slice none 0 0]) := by rw [lC.get N (by rw [next_bump]; omega), get_bump]; exact get_push_self (E0 N) _
  have gC : ∀ c, c < N → HC.get c = (E0 N).get c := fun c hc => by rw [lC.get c (by rw [next_bump]; omega), get_bump, get_push_ne (by rw [next_E0]; omega)]
  generalize hHI : ((E0 N).push (.row true 25 [.slice none 0 0])).bump m1 = HI at *
  have nI : HI.next = m1 := by rw [← hHI]; rfl
  have hsl0 := oC.isSl
  simp (maxSteps := 1000000) (disch := first | exact sd | fail) only [go_sem, Nat.reduceAdd, Nat.reduceSub, Nat.reduceLeDiff, ↓reduceIte, decide_eq_true_eq, if_true, if_false, Bool.false_eq_true, Int.lt_irrefl, implies_true, true_and, and_true, eq_self, and_self, beq_self_eq_true]
  refine aw_loopJ (σ := Nat × Value) (fun s J => [.int .i64 w, J 1, .pointer (some ⟨N, 0, none⟩), s.2, .int .i64 s.1, J 5, J 6, J 7, J 8, J 9, J 10, J 11, J 12, J 13, J 14, J 15, J 16, J 17, J 18, J 19, J 20, J 21, J 22, J 23, J 24, J 25, J 26, J 27, J 28, J 29, J 30, J 31, J 32, J 33, J 34, J 35, J 36, J 37, J 38, J 39, J 40, J 41, J 42, J 43]) (fun m s H1 => m = w - s.1 ∧ s.1 ≤ w ∧ Hle HI H1 ∧ RO HI H1 s.2 (sgl w ++ bthP w s.1)) w (0, sl0) rfl ⟨rfl, Nat.zero_le _, lC, by simpa [bthP] using oC⟩ ?_
  rintro m ⟨s, sl⟩ J H1 ⟨rfl, hs1, hle, ho⟩
  simp only at hs1 ho
  by_cases h4 : (s : Int) < w
  · simp (maxSteps := 1000000) (disch := first | exact sd | fail) only [go_sem, Nat.reduceAdd, Nat.reduceSub, Nat.reduceLeDiff, ↓reduceIte, decide_eq_true_eq, if_true, if_false, Bool.false_eq_true, Int.lt_irrefl, implies_true, true_and, and_true, eq_self, and_self, beq_self_eq_true, h4]
    refine aw_loopJ (σ := Nat × Value) (fun q J => [.int .i64 w, J 1, .pointer (some ⟨N, 0, none⟩), q.2, .int .i64 s, .int .i64 (s + 1 + q.1 : Nat), J 6, J 7, J 8, J 9, J 10, J 11, J 12, J 13, J 14, J 15, J 16, J 17, J 18, J 19, J 20, J 21, J 22, J 23, J 24, J 25, J 26, J 27, J 28, J 29, J 30, J 31, J 32, J 33, J 34, J 35, J 36, J 37, J 38, J 39, J 40, J 41, J 42, J 43]) (fun m q H1 => m = w - (s + 1) - q.1 ∧ q.1 ≤ w - (s + 1) ∧ Hle HI H1 ∧ RO HI H1 q.2 (sgl w ++ bthP w s ++ bthI w s q.1)) (w - (s + 1)) (0, sl) rfl ⟨rfl, Nat.zero_le _, hle, by simpa [bthI] using ho⟩ ?_
    clear hle ho
    rintro m ⟨c, sl⟩ J H1 ⟨rfl, hk1, hle, ho⟩
    simp only at hk1 ho
    have b1 := bthP_len (n := w) (m := s)
    have b2 := bthI_len (n := w) (i := s) (m := c)
    have b3 : s * (4 * w) ≤ 144 := Nat.le_trans (Nat.mul_le_mul (show s ≤ 6 by omega) (show 4 * w ≤ 24 by omega)) (by decide)
    have b4 : (sgl w ++ bthP w s ++ bthI w s c).length ≤ 1000 := by
      rw [List.length_append, List.length_append]
      show (sglP w w).length + _ + _ ≤ 1000
      rw [sglP_len]; omega
    have b5 := bthI_succ (n := w) (i := s) (m := c)
    by_cases h5 : ((s + 1 + c : Nat) : Int) < w
    · have hk : s + 1 + (c + 1) = s + 1 + c + 1 := by omega
      have hcw : c < w - (s + 1) := by omega
      generalize s + 1 + c = k at *
      have pf {a b c d : List RQ} : pFill (.slice none 0 0) 4 [(0, Vv eQ a), (1, Vv eQ b), (2, Vv eQ c), (3, Vv eQ d)] = some [Vv eQ a, Vv eQ b, Vv eQ c, Vv eQ d] := rfl
      simp (maxSteps := 1000000) (disch := first | exact sd | fail) only [go_sem, Nat.reduceAdd, Nat.reduceSub, Nat.reduceLeDiff, ↓reduceIte, decide_eq_true_eq, if_true, if_false, Bool.false_eq_true, Int.lt_irrefl, implies_true, true_and, and_true, eq_self, and_self, beq_self_eq_true, h5]
      refine PC.step (p194d (n := w) (i := s) (k := k) (a := 1) (b := 1) hs (by omega) (by omega)) fun m2 j2 => ?_
      try simp only [Heap.next_push, Heap.next_set, Heap.next_kill, next_bump, next_E0] at j2
      simp (maxSteps := 1000000) (disch := first | exact sd | fail) only [go_sem, Nat.reduceAdd, Nat.reduceSub, Nat.reduceLeDiff, ↓reduceIte, decide_eq_true_eq, if_true, if_false, Bool.false_eq_true, Int.lt_irrefl, implies_true, true_and, and_true, eq_self, and_self, beq_self_eq_true]
      refine PC.step (p194d (n := w) (i := s) (k := k) (a := 1) (b := -1) hs (by omega) (by omega)) fun m3 j3 => ?_
      try simp only [Heap.next_push, Heap.next_set, Heap.next_kill, next_bump, next_E0] at j3
      simp (maxSteps := 1000000) (disch := first | exact sd | fail) only [go_sem, Nat.reduceAdd, Nat.reduceSub, Nat.reduceLeDiff, ↓reduceIte, decide_eq_true_eq, if_true, if_false, Bool.false_eq_true, Int.lt_irrefl, implies_true, true_and, and_true, eq_self, and_self, beq_self_eq_true]
      refine PC.step (p194d (n := w) (i := s) (k := k) (a := -1) (b := 1) hs (by omega) (by omega)) fun m4 j4 => ?_
      try simp only [Heap.next_push, Heap.next_set, Heap.next_kill, next_bump, next_E0] at j4
      simp (maxSteps := 1000000) (disch := first | exact sd | fail) only [go_sem, Nat.reduceAdd, Nat.reduceSub, Nat.reduceLeDiff, ↓reduceIte, decide_eq_true_eq, if_true, if_false, Bool.false_eq_true, Int.lt_irrefl, implies_true, true_and, and_true, eq_self, and_self, beq_self_eq_true]
      refine PC.step (p194d (n := w) (i := s) (k := k) (a := -1) (b := -1) hs (by omega) (by omega)) fun m5 j5 => ?_
      try simp only [Heap.next_push, Heap.next_set, Heap.next_kill, next_bump, next_E0] at j5
      have hle2 : Hle HI ((((H1.bump m2).bump m3).bump m4).bump m5) := (((hle.bump j2).bump (by rw [next_bump]; exact j3)).bump (by rw [next_bump]; exact j4)).bump (by rw [next_bump]; exact j5)
      obtain ⟨v, H4, ea, oa, qa, na⟩ := VO.appendN (VO.mono ho (H' := (((H1.bump m2).bump m3).bump m4).bump m5) ((((Hle.bumpS H1 j2).bump (by rw [next_bump]; exact j3)).bump (by rw [next_bump]; exact j4)).bump (by rw [next_bump]; exact j5))) hle2 (bth4 w s k) (n := 4) rfl (t := 23) Try.underlying23 (info_of_type Try.type45) rfl rfl T.s70 (by decide) T.o72 (fun _ _ => rfl) (by omega) (by show _ * 24 ≤ _; omega)
      have ea : aAppend Try.prog (((((H1.bump m2).bump m3).bump m4).bump m5).push (.row true 45 [Vv eQ (r2 w s 1 k 1), Vv eQ (r2 w s 1 k (-1)), Vv eQ (r2 w s (-1) k 1), Vv eQ (r2 w s (-1) k (-1))])) #[23, 23] sl (.slice (some ⟨m5, 0, none⟩) 4 4) = some (v, H4) := ea
      simp (maxSteps := 1000000) (disch := first | exact sd | fail) only [go_sem, Nat.reduceAdd, Nat.reduceSub, Nat.reduceLeDiff, ↓reduceIte, decide_eq_true_eq, if_true, if_false, Bool.false_eq_true, Int.lt_irrefl, implies_true, true_and, and_true, eq_self, and_self, beq_self_eq_true, pf, ea]
      exact IJ_intro (k := w - (s + 1) - (c + 1)) (by omega) (c + 1, v) (by rw [hk]; rfl) ⟨rfl, by dsimp only; omega, qa, by rw [b5, ← List.append_assoc]; exact oa⟩
    · have e : c = w - (s + 1) := by omega
      subst e
      simp (maxSteps := 1000000) (disch := first | exact sd | fail) only [go_sem, Nat.reduceAdd, Nat.reduceSub, Nat.reduceLeDiff, ↓reduceIte, decide_eq_true_eq, if_true, if_false, Bool.false_eq_true, Int.lt_irrefl, implies_true, true_and, and_true, eq_self, and_self, beq_self_eq_true, h5]
      exact IJ_intro (k := w - (s + 1)) (by omega) (s + 1, sl) rfl ⟨rfl, by dsimp only; omega, hle, by rw [bthP_succ, ← List.append_assoc]; exact ho⟩
  · have e : s = w := by omega
    subst e
    have hle3 := hle.next
    have b1 := bthP_len (n := s) (m := s)
    have b3 : s * (4 * s) ≤ 144 := Nat.le_trans (Nat.mul_le_mul hs (show 4 * s ≤ 24 by omega)) (by decide)
    simp (maxSteps := 1000000) (disch := first | exact sd | fail) only [go_sem, Nat.reduceAdd, Nat.reduceSub, Nat.reduceLeDiff, ↓reduceIte, decide_eq_true_eq, if_true, if_false, Bool.false_eq_true, Int.lt_irrefl, implies_true, true_and, and_true, eq_self, and_self, beq_self_eq_true, h4]
    refine (c195 ho hle (by rw [List.length_append]; show (sglP s s).length + _ ≤ _; rw [sglP_len]; omega) (by omega)).mono ?_
    rintro v H' ⟨sl', rfl, o2, l2⟩
    have hsl := o2.isSl
    have g0 : H'.get N = some (.row true 25 [.slice none 0 0]) := by
      rw [l2.get _ (by omega), ← hHI, get_bump]; exact get_push_self (E0 N) _
    have l3 := l2.next
    simp (maxSteps := 1000000) (disch := first | exact sd | fail) only [go_sem, Nat.reduceAdd, Nat.reduceSub, Nat.reduceLeDiff, ↓reduceIte, decide_eq_true_eq, if_true, if_false, Bool.false_eq_true, Int.lt_irrefl, implies_true, true_and, and_true, eq_self, and_self, beq_self_eq_true, g0]
    exact .agg (.cons (VO.fz (o2.setO (by omega) _) T.s70 (by decide)) .nil)
theorem p123 {rows : List (List RQ)} (hr : ∀ j, Rw (rwi rows j)) (hl : rows.length ≤ 2 ^ 40) : PC Try.prog 13 [Tv rows, Tv rows] (.bool true) := by
  refine PC.of (.cons pu_T (.cons pu_T .nil)) (.ground rfl) fun N hN => ?_
  unfold Tv
  refine ACalls.of_code T.hm (n := 30) Try.func13 rfl rfl rfl rfl ?_; simp only [List.replicate_succ, List.replicate_zero, List.cons_append, List.nil_append]
  simp (maxSteps := 1000000) (disch := first | exact sd | fail) only [go_sem, Nat.reduceAdd, Nat.reduceSub, Nat.reduceLeDiff, ↓reduceIte, decide_eq_true_eq, if_true, if_false, Bool.false_eq_true, Int.lt_irrefl, implies_true, true_and, and_true, eq_self, and_self, beq_self_eq_true, aw_plan (id := 6) plM8_123_6, plM8_123_6, ne_eq, not_true_eq_false]
  refine aw_loopJ (σ := Nat) (fun s J => [J 0, J 1, .pointer (some ⟨N, 0, none⟩), .pointer (some ⟨N + 1, 0, none⟩), .bool false, .int .i64 s, J 6, J 7, J 8, J 9, J 10, J 11, J 12, J 13, J 14, J 15, J 16, J 17, J 18, J 19, J 20, J 21, J 22, J 23, J 24, J 25, J 26, J 27, J 28, J 29, J 30, J 31]) (fun m s H1 => m = rows.length - s ∧ s ≤ rows.length ∧ H1.get N = some (.row true 25 [Vv eR rows]) ∧ H1.get (N + 1) = some (.row true 25 [Vv eR rows])) rows.length 0 rfl ⟨rfl, Nat.zero_le _, by simp (maxSteps := 1000000) (disch := first | exact sd | fail) only [go_sem, Nat.reduceAdd, Nat.reduceSub, Nat.reduceLeDiff, ↓reduceIte, decide_eq_true_eq, if_true, if_false, Bool.false_eq_true, Int.lt_irrefl, implies_true, true_and, and_true, eq_self, and_self, beq_self_eq_true, aw_plan (id := 6) plM8_123_6, plM8_123_6], by simp (maxSteps := 1000000) (disch := first | exact sd | fail) only [go_sem, Nat.reduceAdd, Nat.reduceSub, Nat.reduceLeDiff, ↓reduceIte, decide_eq_true_eq, if_true, if_false, Bool.false_eq_true, Int.lt_irrefl, implies_true, true_and, and_true, eq_self, and_self, beq_self_eq_true, aw_plan (id := 6) plM8_123_6, plM8_123_6]⟩ ?_
  rintro m s J H1 ⟨rfl, hs, g1, g2⟩
  by_cases h4 : (s : Int) < rows.length
  · simp (maxSteps := 1000000) (disch := first | exact sd | fail) only [go_sem, Nat.reduceAdd, Nat.reduceSub, Nat.reduceLeDiff, ↓reduceIte, decide_eq_true_eq, if_true, if_false, Bool.false_eq_true, Int.lt_irrefl, implies_true, true_and, and_true, eq_self, and_self, beq_self_eq_true, aw_plan (id := 6) plM8_123_6, plM8_123_6, h4, g1, g2, Int.toNat_natCast, show rows.getD s [] = rwi rows s from rfl]
    refine PC.step (p89 (hr s)) fun m1 j1 => ?_
    try simp only [Heap.next_push, Heap.next_set, Heap.next_kill, next_bump, next_E0] at j1
    simp (maxSteps := 1000000) (disch := first | exact sd | fail) only [go_sem, Nat.reduceAdd, Nat.reduceSub, Nat.reduceLeDiff, ↓reduceIte, decide_eq_true_eq, if_true, if_false, Bool.false_eq_true, Int.lt_irrefl, implies_true, true_and, and_true, eq_self, and_self, beq_self_eq_true, aw_plan (id := 6) plM8_123_6, plM8_123_6]
    exact IJ_intro (k := rows.length - (s + 1)) (by omega) (s + 1) rfl ⟨rfl, by omega, by simp (maxSteps := 1000000) (disch := first | exact sd | fail) only [go_sem, Nat.reduceAdd, Nat.reduceSub, Nat.reduceLeDiff, ↓reduceIte, decide_eq_true_eq, if_true, if_false, Bool.false_eq_true, Int.lt_irrefl, implies_true, true_and, and_true, eq_self, and_self, beq_self_eq_true, aw_plan (id := 6) plM8_123_6, plM8_123_6, g1], by simp (maxSteps := 1000000) (disch := first | exact sd | fail) only [go_sem, Nat.reduceAdd, Nat.reduceSub, Nat.reduceLeDiff, ↓reduceIte, decide_eq_true_eq, if_true, if_false, Bool.false_eq_true, Int.lt_irrefl, implies_true, true_and, and_true, eq_self, and_self, beq_self_eq_true, aw_plan (id := 6) plM8_123_6, plM8_123_6, g2]⟩
  · simp (maxSteps := 1000000) (disch := first | exact sd | fail) only [go_sem, Nat.reduceAdd, Nat.reduceSub, Nat.reduceLeDiff, ↓reduceIte, decide_eq_true_eq, if_true, if_false, Bool.false_eq_true, Int.lt_irrefl, implies_true, true_and, and_true, eq_self, and_self, beq_self_eq_true, aw_plan (id := 6) plM8_123_6, plM8_123_6, h4, g1, g2]
    exact .rfl
def SmR (n : Nat) (r : List RQ) : Prop := ∃ f : Nat → Int, r = rowT n f ∧ ∀ j, -1 ≤ f j ∧ f j ≤ 1
theorem SmR.r1 {n i : Nat} {a : Int} (ha : -1 ≤ a ∧ a ≤ 1) : SmR n (r1 n i a) := ⟨_, rfl, fun j => by split <;> omega⟩
theorem SmR.r2 {n i k : Nat} {a b : Int} (ha : -1 ≤ a ∧ a ≤ 1) (hb : -1 ≤ b ∧ b ≤ 1) : SmR n (r2 n i a k b) := ⟨_, rfl, fun j => by split; exact hb; split <;> omega⟩
theorem SmR.rw {n : Nat} {r : List RQ} (h : SmR n r) (hn : n ≤ 6) : Rw r := by
  obtain ⟨f, rfl, hf⟩ := h
  refine Rw.tab (by omega) fun j _ => Nat.le_trans (lq_int _) ?_
  have := ln_small (z := f j) (by have := hf j; omega)
  omega
theorem sm_sgl {n m : Nat} : ∀ r ∈ sglP n m, SmR n r := by
  intro r hr
  simp only [sglP, List.mem_flatMap, List.mem_cons, List.not_mem_nil, or_false] at hr
  obtain ⟨i, _, rfl | rfl⟩ := hr
  · exact SmR.r1 (by omega)
  · exact SmR.r1 (by omega)
theorem sm_dif {n m : Nat} : ∀ r ∈ difP n m, SmR n r := by
  intro r hr
  simp only [difP, difI, List.mem_flatMap] at hr
  obtain ⟨i, _, k, _, h⟩ := hr
  split at h
  · cases h
  · simp only [List.mem_cons, List.not_mem_nil, or_false] at h
    subst h
    exact SmR.r2 (by omega) (by omega)
theorem sm_bth {n m : Nat} : ∀ r ∈ bthP n m, SmR n r := by
  intro r hr
  simp only [bthP, bthI, bth4, List.mem_flatMap, List.mem_cons, List.not_mem_nil, or_false] at hr
  obtain ⟨i, _, k, _, rfl | rfl | rfl | rfl⟩ := hr <;> exact SmR.r2 (by omega) (by omega)
theorem sm_rwi {n : Nat} {l : List (List RQ)} (h : ∀ r ∈ l, SmR n r) (hn : n ≤ 6) (j : Nat) : Rw (rwi (l.take 40) j) := by
  rcases Nat.lt_or_ge j (l.take 40).length with hj | hj
  · have e : rwi (l.take 40) j = (l.take 40)[j] := by unfold rwi; exact getD_eq hj
    rw [e]
    exact (h _ (List.mem_of_mem_take (List.getElem_mem hj))).rw hn
  · rw [rwi_ge hj]; exact Rg.nil.rw
theorem sm_zon {n : Nat} : ∀ r ∈ sgl n ++ dif n, SmR n r := fun r hr => (List.mem_append.1 hr).elim (sm_sgl r) (sm_dif r)
theorem sm_oct {n : Nat} : ∀ r ∈ sgl n ++ bth n, SmR n r := fun r hr => (List.mem_append.1 hr).elim (sm_sgl r) (sm_bth r)
end Go.Abs
