/- Numbers as an int64, as the document has them; more limbs than a statement reckons with. -/
import Derived.Test.YtgblhcnkfcjalaaN7
set_option linter.unusedVariables false
set_option linter.unusedSimpArgs false
namespace Go.Abs
open Go Go.Proofs
set_option maxRecDepth 10000
set_option linter.unusedSimpArgs false

theorem val_drop2 {m : List Int} (hm : Lim m) {k : Nat} (hk : k < m.length) (h2 : m.length ≤ 2) :
    aBits .or .u64 (val (m.drop (k + 1)) * 4294967296 % 18446744073709551616) (m.getD k 0) = val (m.drop k) := by
  have hb := hm.getD k
  have hd : m.drop k = m.getD k 0 :: m.drop (k + 1) := by
    rw [List.drop_eq_getElem_cons hk]
    congr 1
    rw [List.getD_eq_getElem?_getD, List.getElem?_eq_getElem hk]; rfl
  have h1 : (m.drop (k + 1)).length ≤ 1 := by rw [List.length_drop]; omega
  have hv : 0 ≤ val (m.drop (k + 1)) ∧ val (m.drop (k + 1)) < 4294967296 := by
    have hl := hm.drop (k + 1)
    match m.drop (k + 1), h1, hl with
    | [], _, _ => simp [val]
    | [x], _, hl => have := hl.head; simp only [val]; omega
    | x :: y :: l, h, _ => simp at h
  rw [show val (m.drop (k + 1)) * 4294967296 % 18446744073709551616 = val (m.drop (k + 1)) * 4294967296 by omega]
  rw [or_add32' hb hv, hd]
  simp only [val]
  omega

theorem c49 {H : Heap} {v : Value} {ng : Bool} {l : List Int} (h : IA Try.prog H v ng l) (hb : l.length < 2 ^ 62) : ACalls Try.prog 24 [v] H fun r H' => r = .tuple ⟨[.int .i64 (toR (nzS ng l) (nzL ng l)).1, .bool (toR (nzS ng l) (nzL ng l)).2]⟩ ∧ Hle H H' := by
  have h' := h
  obtain ⟨sl, rfl, hu, hl⟩ := h'
  refine ACalls.of_code T.hm (n := 41) Try.func24 rfl rfl rfl rfl ?_; simp only [List.replicate_succ, List.replicate_zero, List.cons_append, List.nil_append]
  simp (maxSteps := 1000000) (disch := first | exact sd | fail) only [go_sem, Nat.reduceAdd, Nat.reduceSub, Nat.reduceLeDiff, ↓reduceIte, decide_eq_true_eq, if_true, if_false, Bool.false_eq_true, Int.lt_irrefl]
  refine (c148 (h.mono (Hle.push0 _)) hb).mono ?_
  rintro s1 H1 ⟨hs, h1⟩
  have hg := get_box h1
  have hle := (Hle.push0 _).trans h1
  obtain ⟨sm, rfl, hm, hml⟩ := hs
  have hy := hm.isSl
  generalize nzL ng l = m at *
  generalize nzS ng l = mg at *
  have hm2 : U Try.prog (H1.set H.next (.row true 24 [.bool mg, sm])) sm m := Sl.setbox hm hg (by rw [T.s24]; decide) _
  have hle2 : Hle H (H1.set H.next (.row true 24 [.bool mg, sm])) := hle.set (Nat.le_refl _) _
  by_cases h2 : 2 < m.length
  · simp (maxSteps := 1000000) (disch := first | exact sd | fail) only [go_sem, Nat.reduceAdd, Nat.reduceSub, Nat.reduceLeDiff, ↓reduceIte, decide_eq_true_eq, if_true, if_false, Bool.false_eq_true, Int.lt_irrefl, hg, hm.len T.i22, show (2 : Int) < m.length by omega]
    exact ⟨by simp [toR, h2], hle2⟩
  · have hv := val_lt2 hml (by omega)
    simp (maxSteps := 1000000) (disch := first | exact sd | fail) only [go_sem, Nat.reduceAdd, Nat.reduceSub, Nat.reduceLeDiff, ↓reduceIte, decide_eq_true_eq, if_true, if_false, Bool.false_eq_true, Int.lt_irrefl, hg, hm.len T.i22, show ¬ (2 : Int) < m.length by omega]
    have hg2 : (H1.set H.next (.row true 24 [.bool mg, sm])).get H.next = some (.row true 24 [.bool mg, sm]) := get_set_self _ _ _
    generalize H1.set H.next (.row true 24 [.bool mg, sm]) = H2 at *
    refine aw_loopJ (σ := Nat) (fun k J => [J 0, .pointer (some ⟨H.next, 0, none⟩), .int .i64 0, .bool false, .int .u64 (val (m.drop k)), .int .i64 (k - 1), J 6, J 7, J 8, J 9, J 10, J 11, J 12, J 13, J 14, J 15, J 16, J 17, J 18, J 19, J 20, J 21, J 22, J 23, J 24, J 25, J 26, J 27, J 28, J 29, J 30, J 31, J 32, J 33, J 34, J 35, J 36, J 37, J 38, J 39, J 40, J 41]) (fun n k H3 => n = k ∧ H3 = H2 ∧ k ≤ m.length) m.length m.length (by rw [List.drop_length]; rfl) ⟨rfl, rfl, Nat.le_refl _⟩ ?_
    rintro n k J H3 ⟨rfl, rfl, hk⟩
    cases n with
    | succ k =>
      have hb4 := hml.getD k
      simp (maxSteps := 1000000) (disch := first | exact sd | fail) only [go_sem, Nat.reduceAdd, Nat.reduceSub, Nat.reduceLeDiff, ↓reduceIte, decide_eq_true_eq, if_true, if_false, Bool.false_eq_true, Int.lt_irrefl, show (0 : Int) ≤ ((k + 1 : Nat) : Int) - 1 by omega, hg2, hm2.addr Try.underlying22 T.s50 T.z50, hm2.loadh T.r50, show (((k + 1 : Nat) : Int) - 1).toNat = k by omega, wrap_u64' hb4.1 (Int.lt_trans hb4.2 (by decide)), val_drop2 hml hk (Nat.le_of_not_lt h2)]
      refine IJ_intro (k := k) (by omega) k ?_ ⟨rfl, rfl, by omega⟩
      rw [show ((k + 1 : Nat) : Int) - 1 - 1 = (k : Int) - 1 by omega]
      rfl
    | zero =>
      rw [List.drop_zero]
      cases mg with
      | true =>
        by_cases h5 : val m ≤ 9223372036854775808
        · simp (maxSteps := 1000000) (disch := first | exact sd | fail) only [go_sem, Nat.reduceAdd, Nat.reduceSub, Nat.reduceLeDiff, ↓reduceIte, decide_eq_true_eq, if_true, if_false, Bool.false_eq_true, Int.lt_irrefl, show ¬ (0 : Int) ≤ ((0 : Nat) : Int) - 1 by omega, hg2, h5, wrap_u64]
          refine ⟨?_, hle2⟩
          have e : IntKind.i64.wrap (-val m % 18446744073709551616) = -(val m) := by rw [wrap_i64_eq]; split <;> omega
          simp [toR, h2, h5, e]
        · simp (maxSteps := 1000000) (disch := first | exact sd | fail) only [go_sem, Nat.reduceAdd, Nat.reduceSub, Nat.reduceLeDiff, ↓reduceIte, decide_eq_true_eq, if_true, if_false, Bool.false_eq_true, Int.lt_irrefl, show ¬ (0 : Int) ≤ ((0 : Nat) : Int) - 1 by omega, hg2, h5, show (9223372036854775808 : Int) ≤ val m by omega]
          exact ⟨by simp [toR, h2, h5], hle2⟩
      | false =>
        by_cases h5 : val m < 9223372036854775808
        · simp (maxSteps := 1000000) (disch := first | exact sd | fail) only [go_sem, Nat.reduceAdd, Nat.reduceSub, Nat.reduceLeDiff, ↓reduceIte, decide_eq_true_eq, if_true, if_false, Bool.false_eq_true, Int.lt_irrefl, show ¬ (0 : Int) ≤ ((0 : Nat) : Int) - 1 by omega, hg2, show ¬ (9223372036854775808 : Int) ≤ val m by omega]
          exact ⟨by simp [toR, h2, h5], hle2⟩
        · simp (maxSteps := 1000000) (disch := first | exact sd | fail) only [go_sem, Nat.reduceAdd, Nat.reduceSub, Nat.reduceLeDiff, ↓reduceIte, decide_eq_true_eq, if_true, if_false, Bool.false_eq_true, Int.lt_irrefl, show ¬ (0 : Int) ≤ ((0 : Nat) : Int) - 1 by omega, hg2, show (9223372036854775808 : Int) ≤ val m by omega]
          exact ⟨by simp [toR, h2, h5], hle2⟩
end Go.Abs
