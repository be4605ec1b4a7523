/- How many strategies there are at most: the program's. -/
import Derived.Test.YtboekagofficpaaO6
set_option linter.unusedVariables false
set_option linter.unusedSimpArgs false
namespace Go.Abs
open Go Go.Proofs
set_option maxRecDepth 100000
set_option maxHeartbeats 4000000
theorem fz_z0 {H : Heap} : FzRel Try.prog H (Zn 0) (.agg ⟨[.bool false, .slice none 0 0]⟩) := by
  rw [show Zn 0 = .agg ⟨[.bool false, Vv eU []]⟩ by rw [Zn_eq, lmb_zero]; rfl]
  exact .nz (.agg (.cons .rfl (.cons .vnil .nil)))
theorem IO.append1 {H0 H : Heap} {sl : Value} {l : List RI} (h : VO Try.prog eI 47 H0 H sl l) (hle : Hle H0 H) (x : Int) (hs : l.length ≤ 2 ^ 36) :
    ∃ v H', aAppend Try.prog (H.push (.row true 47 [.bool (sgn x), Vv eU (lmb x)])) #[67, 67] sl (.slice (some ⟨H.next, 0, none⟩) 1 1) = some (v, H') ∧ VO Try.prog eI 47 H0 H' v (l ++ [ri x]) ∧ Hle H0 H' ∧ H.next ≤ H'.next :=
  VO.append1 h hle (ri x) Try.underlying67 (info_of_type Try.type47) rfl rfl T.s24 (by decide) T.o147 rfl (by omega) (by show _ * 32 ≤ _; omega)
/-- The counts in memory. -/
def cin (E : List RE) (n : Nat) : List Value := (List.range n).map fun i => .int .i64 (cntE E i)
theorem cin_len {E : List RE} {n : Nat} : (cin E n).length = n := by simp [cin]
theorem cin_nil {n : Nat} : cin [] n = List.replicate n (.int .i64 0) := by
  unfold cin
  rw [List.eq_replicate_iff]
  refine ⟨by simp, fun v hv => ?_⟩
  obtain ⟨i, _, rfl⟩ := List.mem_map.1 hv
  rfl
theorem cin_get {E : List RE} {n i : Nat} (h : i < n) : (cin E n)[i]? = some (.int .i64 (cntE E i)) := by
  unfold cin
  rw [List.getElem?_map, List.getElem?_range h]
  rfl
theorem cin_set {E : List RE} {n i s : Nat} (hs : s < E.length) (hi : (E.getD s eE.d).t = i) : (cin (E.take s) n).set i (.int .i64 ((cntE (E.take s) i : Int) + 1)) = cin (E.take (s + 1)) n := by
  apply List.ext_getElem
  · simp [cin]
  · intro k h1 h2
    simp only [List.length_set, cin_len] at h1
    rw [List.getElem_set]
    simp only [cin, List.getElem_map, List.getElem_range]
    rw [cntE_succ hs, hi]
    by_cases hk : i = k
    · subst hk
      rw [if_pos rfl, if_pos rfl]
      rfl
    · rw [if_neg hk, if_neg (by omega)]
      rfl
theorem okW_len {l : RW} (h : okW l = true) : 1 ≤ l.locs.length ∧ l.locs.length ≤ 40 ∧ l.slots.length ≤ 6 ∧ l.edges.length ≤ 200 ∧ l.viols.length ≤ 200 := by
  unfold okW at h
  rw [Bool.and_eq_true, Bool.and_eq_true] at h
  exact of_decide_eq_true h.1.1
theorem okW_edge {l : RW} (h : okW l = true) {s : Nat} (hs : s < l.edges.length) : okE l.locs.length l.slots.length (l.edges.getD s eE.d) = true := by
  unfold okW at h
  rw [Bool.and_eq_true, Bool.and_eq_true] at h
  exact getDm hs (List.all_eq_true.1 h.1.2)
theorem cin_splice {E : List RE} {n i s : Nat} (hs : s < E.length) (hi : (E.getD s eE.d).t = i) (hn : i < n) : splice (cin (E.take s) n) i [.int .i64 ((cntE (E.take s) i : Int) + 1)] = cin (E.take (s + 1)) n := by
  rw [splice_eq _ _ _ (by rw [cin_len]; simp; omega), ← cin_set hs hi, List.set_eq_take_append_cons_drop, if_pos (by rw [cin_len]; exact hn), List.append_assoc]
  rfl
theorem p135 {l : RW} {r : Int} (h : LimW l) (hs : SmW l) : PC Try.prog 14 [Wv l, .int .i64 r] (Zn (rndV l r)) := by
  have q0 := p199 h hs
  have q2 := p200 (r := r)
  have hw1 := @okW_len l
  have hw2 := @okW_edge l
  unfold rndV
  refine PC.of (.cons pu_W (.cons (.ground rfl) .nil)) pu_in fun N hN => ?_
  generalize okW l = w at *
  obtain ⟨L, S, E, V⟩ := l
  have hn := fewN_le r
  generalize fewN r = n at *
  unfold Wv at *
  try dsimp only at *
  refine ACalls.of_code T.hm (n := 61) Try.func14 rfl rfl rfl rfl ?_; simp only [List.replicate_succ, List.replicate_zero, List.cons_append, List.nil_append]
  simp (maxSteps := 1000000) (disch := first | exact sd | fail) only [go_sem, Nat.reduceAdd, Nat.reduceSub, Nat.reduceLeDiff, ↓reduceIte, decide_eq_true_eq, if_true, if_false, Bool.false_eq_true, Int.lt_irrefl, implies_true, true_and, and_true, eq_self, and_self, beq_self_eq_true]
  refine PC.step (q0) fun m1 j1 => ?_
  try simp only [Heap.next_push, Heap.next_set, Heap.next_kill, next_bump, next_E0] at j1
  cases w with
  | false =>
    simp (maxSteps := 1000000) (disch := first | exact sd | fail) only [go_sem, Nat.reduceAdd, Nat.reduceSub, Nat.reduceLeDiff, ↓reduceIte, decide_eq_true_eq, if_true, if_false, Bool.false_eq_true, Int.lt_irrefl, implies_true, true_and, and_true, eq_self, and_self, beq_self_eq_true, Bool.not_false]
    exact fz_z0
  | true =>
  obtain ⟨w1, w2, _, w4, _⟩ := hw1 rfl
  have w3 := @hw2 rfl
  clear hw1 hw2 q0 h hs
  rw [if_pos rfl]
  simp (maxSteps := 1000000) (disch := first | exact sd | fail) only [go_sem, Nat.reduceAdd, Nat.reduceSub, Nat.reduceLeDiff, ↓reduceIte, decide_eq_true_eq, if_true, if_false, Bool.false_eq_true, Int.lt_irrefl, implies_true, true_and, and_true, eq_self, and_self, beq_self_eq_true, Bool.not_true]
  refine PC.step (q2) fun m2 j2 => ?_
  try simp only [Heap.next_push, Heap.next_set, Heap.next_kill, next_bump, next_E0] at j2
  have hlen {a : Addr} : aLen Try.prog 55 (.slice (some a) L.length L.length) = some (.int .i64 L.length) := len_ownU T.i191
  simp (maxSteps := 1000000) (disch := first | exact sd | fail) only [go_sem, Nat.reduceAdd, Nat.reduceSub, Nat.reduceLeDiff, ↓reduceIte, decide_eq_true_eq, if_true, if_false, Bool.false_eq_true, Int.lt_irrefl, implies_true, true_and, and_true, eq_self, and_self, beq_self_eq_true, aMk_int, Int.toNat_natCast]
  rw [← cin_nil]
  refine aw_loopJ (σ := Nat) (fun s J => [J 0, .int .i64 r, .pointer (some ⟨N, 0, none⟩), J 3, .pointer (some ⟨N + 1, 0, none⟩), .int .i64 n, .slice (some ⟨m2, 0, none⟩) L.length L.length, J 7, J 8, J 9, J 10, J 11, J 12, J 13, J 14, J 15, J 16, J 17, J 18, J 19, J 20, J 21, J 22, Vv eE E, .int .i64 E.length, .int .i64 s, J 26, J 27, J 28, J 29, J 30, J 31, J 32, J 33, J 34, J 35, J 36, J 37, J 38, J 39, J 40, J 41, J 42, J 43, J 44, J 45, J 46, J 47, J 48, J 49, J 50, J 51, J 52, J 53, J 54, J 55, J 56, J 57, J 58, J 59, J 60, J 61, J 62]) (fun m s H1 => m = E.length - s ∧ s ≤ E.length ∧ m2 < H1.next ∧ H1.get N = some (.row true 27 [Vv eL L, Vv eS S, Vv eE E, Vv eV V]) ∧ H1.get (N + 1) = some (.row true 47 [.bool false, .slice none 0 0]) ∧ H1.get m2 = some (.row true 3 (cin (E.take s) L.length))) E.length 0 rfl ⟨rfl, Nat.zero_le _, by simp only [next_push, next_bump]; omega, by simp (maxSteps := 1000000) (disch := first | exact sd | fail) only [go_sem, Nat.reduceAdd, Nat.reduceSub, Nat.reduceLeDiff, ↓reduceIte, decide_eq_true_eq, if_true, if_false, Bool.false_eq_true, Int.lt_irrefl, implies_true, true_and, and_true, eq_self, and_self, beq_self_eq_true], by simp (maxSteps := 1000000) (disch := first | exact sd | fail) only [go_sem, Nat.reduceAdd, Nat.reduceSub, Nat.reduceLeDiff, ↓reduceIte, decide_eq_true_eq, if_true, if_false, Bool.false_eq_true, Int.lt_irrefl, implies_true, true_and, and_true, eq_self, and_self, beq_self_eq_true], by rw [List.take_zero]; simp (maxSteps := 1000000) (disch := first | exact sd | fail) only [go_sem, Nat.reduceAdd, Nat.reduceSub, Nat.reduceLeDiff, ↓reduceIte, decide_eq_true_eq, if_true, if_false, Bool.false_eq_true, Int.lt_irrefl, implies_true, true_and, and_true, eq_self, and_self, beq_self_eq_true]⟩ ?_
  rintro m s J H1 ⟨rfl, hs, nx, g1, g2, g3⟩
  by_cases h4 : (s : Int) < E.length
  · have h5 : (s : Int).toNat = s := rfl
    have w5 := (okE_iff.1 (w3 (s := s) (by omega))).2.1
    obtain ⟨i, hi⟩ : ∃ i : Nat, (E.getD s eE.d).t = i := ⟨(E.getD s eE.d).t.toNat, by omega⟩
    have sp := cin_splice (n := L.length) (by omega) hi (by omega)
    have gi := cin_get (E := E.take s) (n := L.length) (i := i) (by omega)
    have cl := cin_len (E := E.take s) (n := L.length)
    have hc := cntE_le (E := E.take s) (i := i)
    have hc2 : (E.take s).length ≤ 200 := by rw [List.length_take]; omega
    rw [hi] at w5
    have hil : i + 1 ≤ L.length := by omega
    have ha : aIndexAddr Try.prog 55 (.slice (some ⟨m2, 0, none⟩) L.length L.length) (.int .i64 (i : Int)) = some (.pointer (some ⟨m2, i, none⟩)) := by
      have := ix_ownU (P := Try.prog) (b := m2) (off := 0) (n := L.length) (c := L.length) (k := .i64) (i := (i : Int)) Try.underlying55 T.z3 T.s3 (by omega) (by omega)
      simpa using this
    generalize he : E.getD s eE.d = a at *
    generalize cntE (E.take s) i = c at *
    simp (maxSteps := 1000000) (disch := first | exact sd | fail) only [go_sem, Nat.reduceAdd, Nat.reduceSub, Nat.reduceLeDiff, ↓reduceIte, decide_eq_true_eq, if_true, if_false, Bool.false_eq_true, Int.lt_irrefl, implies_true, true_and, and_true, eq_self, and_self, beq_self_eq_true, h4, h5, he, hi, hil, ha, g3, gi, cl, sp]
    refine IJ_intro (k := E.length - (s + 1)) (by omega) (s + 1) rfl ⟨rfl, by omega, by simp only [next_push, next_set]; omega, by simp (maxSteps := 1000000) (disch := first | exact sd | fail) only [go_sem, Nat.reduceAdd, Nat.reduceSub, Nat.reduceLeDiff, ↓reduceIte, decide_eq_true_eq, if_true, if_false, Bool.false_eq_true, Int.lt_irrefl, implies_true, true_and, and_true, eq_self, and_self, beq_self_eq_true, g1], by simp (maxSteps := 1000000) (disch := first | exact sd | fail) only [go_sem, Nat.reduceAdd, Nat.reduceSub, Nat.reduceLeDiff, ↓reduceIte, decide_eq_true_eq, if_true, if_false, Bool.false_eq_true, Int.lt_irrefl, implies_true, true_and, and_true, eq_self, and_self, beq_self_eq_true, g2], by simp (maxSteps := 1000000) (disch := first | exact sd | fail) only [go_sem, Nat.reduceAdd, Nat.reduceSub, Nat.reduceLeDiff, ↓reduceIte, decide_eq_true_eq, if_true, if_false, Bool.false_eq_true, Int.lt_irrefl, implies_true, true_and, and_true, eq_self, and_self, beq_self_eq_true]⟩
  have e : s = E.length := by omega
  subst e
  rw [List.take_length] at g3
  simp (maxSteps := 1000000) (disch := first | exact sd | fail) only [go_sem, Nat.reduceAdd, Nat.reduceSub, Nat.reduceLeDiff, ↓reduceIte, decide_eq_true_eq, if_true, if_false, Bool.false_eq_true, Int.lt_irrefl, implies_true, true_and, and_true, eq_self, and_self, beq_self_eq_true, h4, hlen]
  generalize hHB : H1 = HB at *
  clear hHB
  refine aw_loopJ (σ := Nat × Value) (fun s J => [J 0, .int .i64 r, .pointer (some ⟨N, 0, none⟩), J 3, .pointer (some ⟨N + 1, 0, none⟩), .int .i64 n, J 6, J 7, J 8, s.2, J 10, J 11, J 12, J 13, J 14, J 15, J 16, J 17, J 18, J 19, J 20, J 21, J 22, J 23, J 24, J 25, J 26, J 27, J 28, J 29, J 30, J 31, J 32, J 33, J 34, J 35, J 36, .slice (some ⟨m2, 0, none⟩) L.length L.length, .int .i64 L.length, .int .i64 s.1, J 40, J 41, J 42, J 43, J 44, J 45, J 46, J 47, J 48, J 49, J 50, J 51, J 52, J 53, J 54, J 55, J 56, J 57, J 58, J 59, J 60, J 61, J 62]) (fun m s H2 => m = L.length - s.1 ∧ s.1 ≤ L.length ∧ Hle HB H2 ∧ VO Try.prog eI 47 HB H2 s.2 ((alls E n s.1).map ri)) L.length (0, .slice none 0 0) rfl ⟨rfl, Nat.zero_le _, Hle.rfl, VO.nil⟩ ?_
  rintro m ⟨s, sl⟩ J H2 ⟨rfl, hs2, hle, hv⟩
  dsimp only at hs2 hv ⊢
  by_cases h6 : (s : Int) < L.length
  · have gi := cin_get (E := E) (n := L.length) (i := s) (by omega)
    have hc := cntE_le (E := E) (i := s)
    have g3' := (hle.get m2 nx).trans g3
    have ha : aIndexAddr Try.prog 55 (.slice (some ⟨m2, 0, none⟩) L.length L.length) (.int .i64 (s : Int)) = some (.pointer (some ⟨m2, s, none⟩)) := by
      have := ix_ownU (P := Try.prog) (b := m2) (off := 0) (n := L.length) (c := L.length) (k := .i64) (i := (s : Int)) Try.underlying55 T.z3 T.s3 (by omega) (by omega)
      simpa using this
    have hall := alls_succ (E := E) (n := n) (s := s)
    have hal := alls_len (E := E) (n := n) (s := s)
    have hal2 : s * n ≤ 1600 := Nat.mul_le_mul (show _ ≤ 40 by omega) hn
    generalize hA1 : alls E n (s + 1) = A1 at *
    generalize alls E n s = A0 at *
    generalize cntE E s = c at *
    simp (maxSteps := 1000000) (disch := first | exact sd | fail) only [go_sem, Nat.reduceAdd, Nat.reduceSub, Nat.reduceLeDiff, ↓reduceIte, decide_eq_true_eq, if_true, if_false, Bool.false_eq_true, Int.lt_irrefl, implies_true, true_and, and_true, eq_self, and_self, beq_self_eq_true, h6, ha, g3', gi]
    refine aw_loopJ (σ := Nat × Value) (fun q J => [J 0, .int .i64 r, .pointer (some ⟨N, 0, none⟩), J 3, .pointer (some ⟨N + 1, 0, none⟩), .int .i64 n, J 6, J 7, J 8, q.2, J 10, .int .i64 c, J 12, J 13, J 14, J 15, J 16, J 17, J 18, J 19, J 20, J 21, J 22, J 23, J 24, J 25, J 26, J 27, J 28, J 29, J 30, J 31, J 32, J 33, J 34, J 35, J 36, .slice (some ⟨m2, 0, none⟩) L.length L.length, .int .i64 L.length, .int .i64 s, J 40, J 41, J 42, .int .i64 n, .int .i64 q.1, J 45, J 46, J 47, J 48, J 49, J 50, J 51, J 52, J 53, J 54, J 55, J 56, J 57, J 58, J 59, J 60, J 61, J 62]) (fun m q H2 => m = n - q.1 ∧ q.1 ≤ n ∧ Hle HB H2 ∧ VO Try.prog eI 47 HB H2 q.2 ((A0 ++ List.replicate q.1 ((c : Int) + 2)).map ri)) n (0, sl) rfl ⟨rfl, Nat.zero_le _, hle, by rw [List.replicate_zero, List.append_nil]; exact hv⟩ ?_
    clear hv
    rintro m ⟨k, sl2⟩ J H3 ⟨rfl, hk, hle3, hv3⟩
    dsimp only at hk hv3 ⊢
    by_cases h7 : (k : Int) < n
    · have q50 := p50 (x := (c : Int) + 2) (by omega)
      simp (maxSteps := 1000000) (disch := first | exact sd | fail) only [go_sem, Nat.reduceAdd, Nat.reduceSub, Nat.reduceLeDiff, ↓reduceIte, decide_eq_true_eq, if_true, if_false, Bool.false_eq_true, Int.lt_irrefl, implies_true, true_and, and_true, eq_self, and_self, beq_self_eq_true, h7]
      refine PC.step (q50) fun m3 j3 => ?_
      try simp only [Heap.next_push, Heap.next_set, Heap.next_kill, next_bump, next_E0] at j3
      obtain ⟨v, H4, ea, oa, qa, na⟩ := IO.append1 (hv3.bump j3) (Hle.bump hle3 j3) ((c : Int) + 2) (by rw [List.length_map, List.length_append, List.length_replicate, hal]; omega)
      rw [next_bump] at ea
      simp (maxSteps := 1000000) (disch := first | exact sd | fail) only [go_sem, Nat.reduceAdd, Nat.reduceSub, Nat.reduceLeDiff, ↓reduceIte, decide_eq_true_eq, if_true, if_false, Bool.false_eq_true, Int.lt_irrefl, implies_true, true_and, and_true, eq_self, and_self, beq_self_eq_true, ea]
      refine IJ_intro (k := n - (k + 1)) (by omega) (k + 1, v) rfl ⟨rfl, by dsimp only; omega, qa, ?_⟩
      dsimp only
      rw [List.replicate_succ', ← List.append_assoc, List.map_append]
      exact oa
    · have e : k = n := by omega
      subst e
      simp (maxSteps := 1000000) (disch := first | exact sd | fail) only [go_sem, Nat.reduceAdd, Nat.reduceSub, Nat.reduceLeDiff, ↓reduceIte, decide_eq_true_eq, if_true, if_false, Bool.false_eq_true, Int.lt_irrefl, implies_true, true_and, and_true, eq_self, and_self, beq_self_eq_true, h7]
      rw [← hall] at hv3
      exact IJ_intro (k := L.length - (s + 1)) (by omega) (s + 1, sl2) rfl ⟨rfl, by dsimp only; omega, hle3, by show VO Try.prog eI 47 HB H3 sl2 ((alls E _ (s + 1)).map ri); rw [hA1]; exact hv3⟩
  have e : s = L.length := by omega
  subst e
  have g1' := (hle.get N (by omega)).trans g1
  have g2' := (hle.get (N + 1) (by omega)).trans g2
  have hp2 : L.length * n ≤ 1600 := Nat.mul_le_mul (show _ ≤ 40 by omega) hn
  have hal := alls_len (E := E) (n := n) (s := L.length)
  have ham := alls_mem (E := E) (n := n) (s := L.length) w4
  generalize alls E n L.length = A at *
  have hp : (L.length : Int) * (n : Int) = ((L.length * n : Nat) : Int) := by rw [Int.natCast_mul]
  generalize L.length * n = p at *
  have hlnx := hle.next
  simp (maxSteps := 1000000) (disch := first | exact sd | fail) only [go_sem, Nat.reduceAdd, Nat.reduceSub, Nat.reduceLeDiff, ↓reduceIte, decide_eq_true_eq, if_true, if_false, Bool.false_eq_true, Int.lt_irrefl, implies_true, true_and, and_true, eq_self, and_self, beq_self_eq_true, h6, g1', hp]
  refine PC.step (p50 (x := (p : Int) + 1) (by omega)) fun m4 j4 => ?_
  try simp only [Heap.next_push, Heap.next_set, Heap.next_kill, next_bump, next_E0] at j4
  simp (maxSteps := 1000000) (disch := first | exact sd | fail) only [go_sem, Nat.reduceAdd, Nat.reduceSub, Nat.reduceLeDiff, ↓reduceIte, decide_eq_true_eq, if_true, if_false, Bool.false_eq_true, Int.lt_irrefl, implies_true, true_and, and_true, eq_self, and_self, beq_self_eq_true]
  refine ACalls.voU (ps := [_, _]) (hv.bump j4) (Hle.bump hle j4) (by decide) fun H5 hl5 hn5 => ?_
  have q201 := p201 (a := (p : Int) + 1) (ns := A) (by have := ln_small (z := (p : Int) + 1) (by omega); omega) ham (by omega)
  refine PC.step (q201) fun m6 j6 => ?_
  try simp only [Heap.next_push, Heap.next_set, Heap.next_kill, next_bump, next_E0] at j6
  have g5 := (hl5.get (N + 1) (by omega)).trans g2
  simp (maxSteps := 1000000) (disch := first | exact sd | fail) only [go_sem, Nat.reduceAdd, Nat.reduceSub, Nat.reduceLeDiff, ↓reduceIte, decide_eq_true_eq, if_true, if_false, Bool.false_eq_true, Int.lt_irrefl, implies_true, true_and, and_true, eq_self, and_self, beq_self_eq_true, g5]
  exact .rfl
end Go.Abs
