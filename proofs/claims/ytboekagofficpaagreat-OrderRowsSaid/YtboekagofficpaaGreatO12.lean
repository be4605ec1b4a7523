/- The order of locations: the document's, as a call of values. -/
import Derived.Test.YtboekagofficpaaGreatO11
set_option linter.unusedVariables false
set_option linter.unusedSimpArgs false
namespace Go.Abs
open Go Go.Proofs
set_option maxRecDepth 100000
set_option maxHeartbeats 4000000
theorem NO.append1h {H0 H : Heap} {sl : Value} {l : List Int} (h : NO H0 H sl l) (hle : Hle H0 H) (x : Int) (hs : l.length ≤ 2 ^ 36) :
    ∃ v H', aAppend Tryz.prog (H.push (.row true 3 [.int .i64 x])) #[30, 30] sl (.slice (some ⟨H.next, 0, none⟩) 1 1) = some (v, H') ∧ NO H0 H' v (l ++ [x]) ∧ Hle H0 H' ∧ H.next ≤ H'.next :=
  VO.append1 h hle x Tryz.underlying30 (info_of_type Tryz.type3) (z := .int .i64 0) rfl rfl T.s3 Nat.one_pos T.o191 rfl (by omega) (by show _ * 8 ≤ _; omega)
theorem fz_bools {H : Heap} {b n : Nat} {own : Bool} {l : List Bool} (hg : H.get b = some (.row own 4 (l.map .bool))) (hb : b < H.next) (hn : n = l.length) (h9 : n ≤ 2 ^ 30) : FzRel Tryz.prog H (Vv eB l) (.slice (some ⟨b, 0, none⟩) n n) := by
  subst hn
  have e : l.flatMap eB.enc = l.map .bool := by
    clear hg h9
    induction l with
    | nil => rfl
    | cons a l ih => rw [List.flatMap_cons, List.map_cons, ih]; rfl
  have hs := Sl.row (P := Tryz.prog) (H := H) (es := 1) (b := b) (off := 0) (n := l.length) (c := l.length) hg hb (.inr T.s4) (.inr ⟨Nat.le_refl _, by unfold unk; omega⟩) (by rw [List.length_map]; omega)
  rw [List.drop_zero, List.take_of_length_le (by rw [List.length_map]; omega)] at hs
  unfold Vv
  rw [e]
  exact .sl (es := 1) (by decide) hs .refl
def ordR (l : RW) (a b : Value) : Value := if okW l then .tuple ⟨[Vv eN (ordO (ordS l.edges l.locs.length) l.locs.length), Vv eB (ordS l.edges l.locs.length).head, a]⟩ else .tuple ⟨[Vv eN [], Vv eB [], b]⟩
theorem pu_ordR {l : RW} {a b : Value} (ha : ground a = true) (hb : ground b = true) : Pu (ordR l a b) := by
  unfold ordR
  split
  · exact .tuple (.cons pu_Ns (.cons pu_Bs (.cons (.ground ha) .nil)))
  · exact .tuple (.cons pu_Ns (.cons pu_Bs (.cons (.ground hb) .nil)))
theorem okW_E {l : RW} (h : okW l = true) {j : Nat} (hj : j < l.edges.length) : (0 ≤ (l.edges.getD j eE.d).f ∧ (l.edges.getD j eE.d).f < l.locs.length) ∧ (0 ≤ (l.edges.getD j eE.d).t ∧ (l.edges.getD j eE.d).t < l.locs.length) := by
  unfold okW at h
  rw [Bool.and_eq_true, Bool.and_eq_true] at h
  have := okE_iff.1 (getDm (d := eE.d) hj (List.all_eq_true.1 h.1.2))
  exact ⟨this.1, this.2.1⟩
theorem okW_n {l : RW} (h : okW l = true) : 1 ≤ l.locs.length ∧ l.locs.length ≤ 40 ∧ l.edges.length ≤ 200 := by
  unfold okW at h
  rw [Bool.and_eq_true, Bool.and_eq_true] at h
  have := of_decide_eq_true h.1.1
  omega
theorem okW_out {l : RW} (h : okW l = true) : ∀ v, ∀ u ∈ outE l.edges v, u < l.locs.length := by
  refine outE_lt fun e he => ?_
  obtain ⟨j, hj, rfl⟩ := List.getElem_of_mem he
  have := (okW_E h hj).2
  rw [List.getD_eq_getElem?_getD, List.getElem?_eq_getElem hj] at this
  exact this
theorem ordS_OI {l : RW} (h : okW l = true) : OI l.locs.length 0 (ordS l.edges l.locs.length) := (visit_OI (okW_out h) os0_OI (by have := okW_n h; omega) os0_how).1
theorem rev_getD {l : List Int} {j : Nat} (h : j < l.length) : l.getD (l.length - 1 - j) 0 = l.reverse.getD j 0 := by
  rw [List.getD_eq_getElem?_getD, List.getD_eq_getElem?_getD, List.getElem?_eq_getElem (by omega), List.getElem?_eq_getElem (by rw [List.length_reverse]; exact h), List.getElem_reverse]
theorem take_snocU {l : List Int} {s : Nat} (h : s < l.length) : l.take (s + 1) = l.take s ++ [l.getD s 0] := by
  rw [List.take_add_one, List.getD_eq_getElem?_getD, List.getElem?_eq_getElem h]
  rfl
theorem p206 {l : RW} (h : LimW l) (hs : SmW l) : PC Tryz.prog 12 [Wv l] (ordR l (.bool true) (.bool false)) := by
  have q0 := p202 h hs
  have hw1 := @okW_n l
  have hw2 := @okW_E l
  have hw3 := @okW_out l
  have hw4 := @ordS_OI l
  refine PC.of (.cons pu_W .nil) (pu_ordR rfl rfl) fun N hN => ?_
  unfold ordR
  generalize okW l = w at *
  unfold Wv at *
  refine ACalls.of_code T.hm (n := 66) Tryz.func12 rfl rfl rfl rfl ?_; simp only [List.replicate_succ, List.replicate_zero, List.cons_append, List.nil_append]
  simp (maxSteps := 1000000) (disch := first | exact sd | fail) only [go_sem, Nat.reduceAdd, Nat.reduceSub, Nat.reduceLeDiff, ↓reduceIte, decide_eq_true_eq, if_true, if_false, Bool.false_eq_true, Int.lt_irrefl, implies_true, true_and, and_true, eq_self, and_self, beq_self_eq_true, aw_drawn (id := 4), aw_drawn' (id := 4), aw_drawn (id := 16), aw_drawn' (id := 16)]
  refine PC.step (q0) fun m1 j1 => ?_
  try simp only [Heap.next_push, Heap.next_set, Heap.next_kill, next_bump, next_E0] at j1
  cases w with
  | false =>
    simp (maxSteps := 1000000) (disch := first | exact sd | fail) only [go_sem, Nat.reduceAdd, Nat.reduceSub, Nat.reduceLeDiff, ↓reduceIte, decide_eq_true_eq, if_true, if_false, Bool.false_eq_true, Int.lt_irrefl, implies_true, true_and, and_true, eq_self, and_self, beq_self_eq_true, aw_drawn (id := 4), aw_drawn' (id := 4), aw_drawn (id := 16), aw_drawn' (id := 16), Bool.not_false]
    exact .tuple (.cons (.nz .vnil) (.cons (.nz .vnil) (.cons .rfl .nil)))
  | true =>
  obtain ⟨w1, w2, w4⟩ := hw1 rfl
  have w3 := @hw2 rfl
  have w5 := hw3 rfl
  have w6 := hw4 rfl
  clear hw1 hw2 hw3 hw4 q0 h hs
  rw [if_pos rfl]
  generalize hn : l.locs.length = n at *
  simp (maxSteps := 1000000) (disch := first | exact sd | fail) only [go_sem, Nat.reduceAdd, Nat.reduceSub, Nat.reduceLeDiff, ↓reduceIte, decide_eq_true_eq, if_true, if_false, Bool.false_eq_true, Int.lt_irrefl, implies_true, true_and, and_true, eq_self, and_self, beq_self_eq_true, aw_drawn (id := 4), aw_drawn' (id := 4), aw_drawn (id := 16), aw_drawn' (id := 16), Bool.not_true, aMk_int, Int.toNat_natCast, hn]
  have hb0 : WB (m1 + 3) (m1 + 2) m1 (m1 + 1) := ⟨by omega, by omega, by omega, by omega⟩
  generalize hH1 : (Heap.push _ (AObj.row true 67 _)) = H1
  have wk : WK (m1 + 3) (m1 + 2) m1 (m1 + 1) n l H1 (os0 n) := by
    subst hH1
    refine ⟨by simp only [next_push, next_bump]; omega, ⟨_, by simp (maxSteps := 1000000) (disch := first | exact sd | fail) only [go_sem, Nat.reduceAdd, Nat.reduceSub, Nat.reduceLeDiff, ↓reduceIte, decide_eq_true_eq, if_true, if_false, Bool.false_eq_true, Int.lt_irrefl, implies_true, true_and, and_true, eq_self, and_self, beq_self_eq_true, aw_drawn (id := 4), aw_drawn' (id := 4), aw_drawn (id := 16), aw_drawn' (id := 16)], VO.nil⟩, ?_, ?_⟩
    · simp only [os0, List.map_replicate]; simp (maxSteps := 1000000) (disch := first | exact sd | fail) only [go_sem, Nat.reduceAdd, Nat.reduceSub, Nat.reduceLeDiff, ↓reduceIte, decide_eq_true_eq, if_true, if_false, Bool.false_eq_true, Int.lt_irrefl, implies_true, true_and, and_true, eq_self, and_self, beq_self_eq_true, aw_drawn (id := 4), aw_drawn' (id := 4), aw_drawn (id := 16), aw_drawn' (id := 16)]
    · simp only [os0, List.map_replicate]; simp (maxSteps := 1000000) (disch := first | exact sd | fail) only [go_sem, Nat.reduceAdd, Nat.reduceSub, Nat.reduceLeDiff, ↓reduceIte, decide_eq_true_eq, if_true, if_false, Bool.false_eq_true, Int.lt_irrefl, implies_true, true_and, and_true, eq_self, and_self, beq_self_eq_true, aw_drawn (id := 4), aw_drawn' (id := 4), aw_drawn (id := 16), aw_drawn' (id := 16)]
  clear hH1
  refine (c234 hb0 w2 (fun j hj => w3 hj) w4 w5 n 0 0 (os0 n) H1 os0_OI wk (by omega) os0_how (by have := (os0_OI (n := n)).left; omega)).mono ?_
  rintro _ H2 ⟨rfl, wk2⟩
  change WK (m1 + 3) (m1 + 2) m1 (m1 + 1) n l H2 (ordS l.edges n) at wk2
  generalize ordS l.edges n = S at *
  obtain ⟨ls, k1, k2⟩ := wk2.w
  have k3 := wk2.h
  have k5 := wk2.d
  have k6 := wk2.nx
  have hll : S.left.length ≤ n := by have := w6.left; omega
  have hl1 := k2.len T.s3 T.i191
  have hh := w6.how
  have hd := w6.head
  simp (maxSteps := 1000000) (disch := first | exact sd | fail) only [go_sem, Nat.reduceAdd, Nat.reduceSub, Nat.reduceLeDiff, ↓reduceIte, decide_eq_true_eq, if_true, if_false, Bool.false_eq_true, Int.lt_irrefl, implies_true, true_and, and_true, eq_self, and_self, beq_self_eq_true, aw_drawn (id := 4), aw_drawn' (id := 4), aw_drawn (id := 16), aw_drawn' (id := 16), k1, hl1]
  refine aw_loopJ (σ := (Nat × Int) × Value) (fun s J => [J 0, J 1, J 2, J 3, J 4, .int .i64 n, .pointer (some ⟨m1 + 2, 0, none⟩), s.2, .int .i64 s.1.2, J 9, J 10, J 11, J 12, J 13, J 14, J 15, J 16, J 17, J 18, J 19, J 20, J 21, J 22, J 23, J 24, J 25, J 26, J 27, J 28, J 29, J 30, J 31, J 32, J 33, J 34, J 35, J 36, J 37, J 38, J 39, J 40, J 41, J 42, J 43, J 44, J 45, J 46, J 47, J 48, J 49, J 50, J 51, J 52, J 53, J 54, J 55, J 56, J 57, J 58, J 59, J 60, J 61, J 62, J 63, J 64, J 65, J 66]) (fun m s H3 => m = S.left.length - s.1.1 ∧ s.1.1 ≤ S.left.length ∧ s.1.2 = (S.left.length : Int) - 1 - s.1.1 ∧ Hle H2 H3 ∧ NO H2 H3 s.2 (S.left.reverse.take s.1.1)) S.left.length ((0, (S.left.length : Int) - 1), .slice none 0 0) rfl ⟨rfl, Nat.zero_le _, by simp, Hle.rfl, VO.nil⟩ ?_
  rintro m ⟨⟨j, q⟩, sl⟩ J H3 ⟨rfl, hj, hq, hle, ho⟩
  dsimp only at hj hq ho ⊢
  subst hq
  have g1 := (hle.get (m1 + 2) (by omega)).trans k1
  by_cases h4 : (0 : Int) ≤ (S.left.length : Int) - 1 - j
  · have k2' := k2.monoU hle
    have a1 := NO.addr k2' (k := .i64) (i := (S.left.length : Int) - 1 - j) h4 (by omega)
    rw [show ((S.left.length : Int) - 1 - j).toNat = S.left.length - 1 - j by omega] at a1
    have a2 := NO.load k2' (o := S.left.length - 1 - j) (by omega)
    rw [rev_getD (by omega)] at a2
    obtain ⟨v, H4, ea, oa, qa, na⟩ := NO.append1h ho hle (S.left.reverse.getD j 0) (by rw [List.length_take, List.length_reverse]; omega)
    rw [← take_snocU (by rw [List.length_reverse]; omega)] at oa
    generalize S.left.reverse.getD j 0 = x at *
    simp (maxSteps := 1000000) (disch := first | exact sd | fail) only [go_sem, Nat.reduceAdd, Nat.reduceSub, Nat.reduceLeDiff, ↓reduceIte, decide_eq_true_eq, if_true, if_false, Bool.false_eq_true, Int.lt_irrefl, implies_true, true_and, and_true, eq_self, and_self, beq_self_eq_true, aw_drawn (id := 4), aw_drawn' (id := 4), aw_drawn (id := 16), aw_drawn' (id := 16), g1, h4, a1, a2, ea]
    exact IJ_intro (k := S.left.length - (j + 1)) (by omega) ((j + 1, (S.left.length : Int) - 1 - j - 1), v) rfl ⟨rfl, by dsimp only; omega, by dsimp only; omega, qa, oa⟩
  have e : j = S.left.length := by omega
  subst e
  rw [show S.left.reverse.take S.left.length = S.left.reverse by rw [← List.length_reverse, List.take_length]] at ho
  simp (maxSteps := 1000000) (disch := first | exact sd | fail) only [go_sem, Nat.reduceAdd, Nat.reduceSub, Nat.reduceLeDiff, ↓reduceIte, decide_eq_true_eq, if_true, if_false, Bool.false_eq_true, Int.lt_irrefl, implies_true, true_and, and_true, eq_self, and_self, beq_self_eq_true, aw_drawn (id := 4), aw_drawn' (id := 4), aw_drawn (id := 16), aw_drawn' (id := 16), h4]
  have ho : NO H2 H3 sl (S.left.reverse ++ rest S 0) := by simpa [rest] using ho
  refine aw_loopJ (σ := Nat × Value) (fun s J => [J 0, J 1, J 2, J 3, J 4, .int .i64 n, .pointer (some ⟨m1 + 2, 0, none⟩), s.2, J 8, .int .i64 s.1, J 10, J 11, J 12, J 13, J 14, J 15, J 16, J 17, J 18, J 19, J 20, J 21, J 22, J 23, J 24, J 25, J 26, J 27, J 28, J 29, J 30, J 31, J 32, J 33, J 34, J 35, J 36, J 37, J 38, J 39, J 40, J 41, J 42, J 43, J 44, J 45, J 46, J 47, J 48, J 49, J 50, J 51, J 52, J 53, J 54, J 55, J 56, J 57, J 58, J 59, J 60, J 61, J 62, J 63, J 64, J 65, J 66]) (fun m s H3 => m = n - s.1 ∧ s.1 ≤ n ∧ Hle H2 H3 ∧ NO H2 H3 s.2 (S.left.reverse ++ rest S s.1)) n (0, sl) rfl ⟨rfl, Nat.zero_le _, hle, ho⟩ ?_
  clear ho hle g1
  rintro m ⟨j, sl2⟩ J H4 ⟨rfl, hj, hle, ho⟩
  dsimp only at hj ho ⊢
  have g1 := (hle.get (m1 + 2) (by omega)).trans k1
  have g2 := (hle.get m1 (by omega)).trans k3
  by_cases h5 : (j : Int) < n
  · have ix := ix_int (b := m1) (n := n) (i := j) (by omega)
    have gj := gt_int (l := S.how) (i := j) (by omega)
    have hr := rest_succ (s := S) (k := j)
    by_cases h6 : S.how.getD j 0 = 0
    · rw [if_pos h6] at hr
      rw [h6] at gj
      have hrl := rest_len (s := S) (k := j)
      obtain ⟨v, H5, ea, oa, qa, na⟩ := NO.append1h ho hle (j : Int) (by rw [List.length_append, List.length_reverse]; omega)
      rw [List.append_assoc, ← hr] at oa
      simp (maxSteps := 1000000) (disch := first | exact sd | fail) only [go_sem, Nat.reduceAdd, Nat.reduceSub, Nat.reduceLeDiff, ↓reduceIte, decide_eq_true_eq, if_true, if_false, Bool.false_eq_true, Int.lt_irrefl, implies_true, true_and, and_true, eq_self, and_self, beq_self_eq_true, aw_drawn (id := 4), aw_drawn' (id := 4), aw_drawn (id := 16), aw_drawn' (id := 16), g1, g2, h5, ix, gj, ea]
      exact IJ_intro (k := n - (j + 1)) (by omega) (j + 1, v) rfl ⟨rfl, by dsimp only; omega, qa, oa⟩
    · rw [if_neg h6, List.append_nil] at hr
      rw [← hr] at ho
      generalize S.how.getD j 0 = x at *
      simp (maxSteps := 1000000) (disch := first | exact sd | fail) only [go_sem, Nat.reduceAdd, Nat.reduceSub, Nat.reduceLeDiff, ↓reduceIte, decide_eq_true_eq, if_true, if_false, Bool.false_eq_true, Int.lt_irrefl, implies_true, true_and, and_true, eq_self, and_self, beq_self_eq_true, aw_drawn (id := 4), aw_drawn' (id := 4), aw_drawn (id := 16), aw_drawn' (id := 16), g1, g2, h5, h6, ix, gj]
      exact IJ_intro (k := n - (j + 1)) (by omega) (j + 1, sl2) rfl ⟨rfl, by dsimp only; omega, hle, ho⟩
  have e : j = n := by omega
  subst e
  have g3 := (hle.get (m1 + 1) (by omega)).trans k5
  simp (maxSteps := 1000000) (disch := first | exact sd | fail) only [go_sem, Nat.reduceAdd, Nat.reduceSub, Nat.reduceLeDiff, ↓reduceIte, decide_eq_true_eq, if_true, if_false, Bool.false_eq_true, Int.lt_irrefl, implies_true, true_and, and_true, eq_self, and_self, beq_self_eq_true, aw_drawn (id := 4), aw_drawn' (id := 4), aw_drawn (id := 16), aw_drawn' (id := 16), h5, g1]
  exact .tuple (.cons (ho.fz T.s3 (by decide)) (.cons (fz_bools g3 (by have := hle.next; omega) hd.symm (by omega)) (.cons .rfl .nil)))
end Go.Abs
