/- NumForms, on abstract values. -/
import Derived.Test.YtgblhcnkfcjalaaN10
set_option linter.unusedVariables false
set_option linter.unusedSimpArgs false
namespace Go.Abs
open Go Go.Proofs
set_option maxRecDepth 10000
set_option linter.unusedSimpArgs false

def pl4_6 : Plan := ⟨[0, 2], [(1, [2], []), (3, [], [4, 5, 6, 7, 8, 9, 10, 11, 12, 13, 14, 15, 16, 18]), (17, [], []), (19, [], []), (20, [], [21, 22, 23, 24, 25, 26, 27, 28, 29, 30]), (31, [], [32, 33])]⟩
theorem rows1_2 {z a b : Value} : rFill 2 z 1 [(0, .agg ⟨[a, b]⟩)] = some [a, b] := rFill1 rfl
theorem rows2_2 {z a b c d : Value} : rFill 2 z 2 [(0, .agg ⟨[a, b]⟩), (1, .agg ⟨[c, d]⟩)] = some [a, b, c, d] := rFill2 rfl rfl
theorem rows3_2 {z a b c d e f : Value} : rFill 2 z 3 [(0, .agg ⟨[a, b]⟩), (1, .agg ⟨[c, d]⟩), (2, .agg ⟨[e, f]⟩)] = some [a, b, c, d, e, f] := rFill3 rfl rfl rfl
attribute [go_sem] rows1_2 rows2_2 rows3_2

theorem IAs.one {H : Heap} {sl : Value} {ng : Bool} {l : List Int} (hu : U Try.prog H sl l) (hl : Lim l) : IAs (H.push (.row true 24 [.bool ng, sl])) (.slice (some ⟨H.next, 0, none⟩) 1 1) [(ng, l)] := by
  refine ⟨[.bool ng, sl], ?_, ?_⟩
  · exact Sl.row (P := Try.prog) (es := 2) (n := 1) (off := 0) (cs := [.bool ng, sl]) (get_push_self _ _) (by simp) (.inr T.s24) (.inr ⟨Nat.le_refl _, by unfold unk; omega⟩) (by simp)
  · intro i ng' l' h
    match i, h with
    | 0, h =>
      simp only [List.getElem?_cons_zero, Option.some.injEq, Prod.mk.injEq] at h
      obtain ⟨rfl, rfl⟩ := h
      exact ⟨sl, rfl, rfl, hu.mono (Hle.push0 _), hl⟩
    | i + 1, h => simp at h

theorem len_ofR (n : Int) : (trimL (ofR n)).length ≤ 2 := length_trimL (ofR n)
theorem may_ofR {n : Int} : mayB (decide (n < 0)) (trimL (ofR n)) = true := by
  unfold mayB
  split
  · rename_i h
    have h0 : n = 0 := ofR_nil (List.length_eq_zero_iff.1 h)
    simp [h0]
  · rename_i h
    have := top_trimL (ofR n)
    rcases this with h' | h'
    · exact absurd h' h
    · simpa using h'
theorem toR_of {n : Int} (hn : -9223372036854775808 ≤ n ∧ n ≤ 9223372036854775807) : toR (nzS (decide (n < 0)) (trimL (ofR n))) (nzL (decide (n < 0)) (trimL (ofR n))) = (n, true) := by
  have hl := len_ofR n
  have hv : val (trimL (ofR n)) = n.natAbs := by
    rw [val_trimL]
    simp only [ofR, val]
    omega
  unfold nzS nzL
  rw [may_ofR]
  simp only [if_true, toR]
  rw [if_neg (by omega), hv]
  by_cases h : n < 0
  · rw [if_pos (by simp [h]), if_pos (by omega)]
    congr 1
    omega
  · rw [if_neg (by simp [h]), if_pos (by omega)]
    congr 1
    omega

theorem c4 {H : Heap} {v : Value} {ng : Bool} {l : List Int} {n : Int} (h : IA Try.prog H v ng l) (hn : -9223372036854775808 ≤ n ∧ n ≤ 9223372036854775807) : ACalls Try.prog 4 [v, .int .i64 n] H fun r H' => r = .bool true := by
  have h' := h
  obtain ⟨sl, rfl, hu, hl⟩ := h'
  refine ACalls.of_code T.hm (n := 62) Try.func4 rfl rfl rfl rfl ?_; simp only [List.replicate_succ, List.replicate_zero, List.cons_append, List.nil_append]
  simp (maxSteps := 1000000) (disch := first | exact sd | fail) only [go_sem, Nat.reduceAdd, Nat.reduceSub, Nat.reduceLeDiff, ↓reduceIte, decide_eq_true_eq, if_true, if_false, Bool.false_eq_true, Int.lt_irrefl, aw_plan (id := 6) pl4_6, pl4_6]
  refine (c40 (IAs.one (hu.mono (Hle.push0 _)) hl) (by simp)).mono ?_
  rintro _ H1 ⟨rfl, rfl⟩
  by_cases h0 : 40 < l.length
  · simp (maxSteps := 1000000) (disch := first | exact sd | fail) only [go_sem, Nat.reduceAdd, Nat.reduceSub, Nat.reduceLeDiff, ↓reduceIte, decide_eq_true_eq, if_true, if_false, Bool.false_eq_true, Int.lt_irrefl, aw_plan (id := 6) pl4_6, pl4_6, List.any_cons, List.any_nil, Bool.or_false, show decide (40 < l.length) = true by simpa using h0]
    refine (c41 _).mono ?_
    rintro _ H2 ⟨rfl, rfl⟩
    simp (maxSteps := 1000000) (disch := first | exact sd | fail) only [go_sem, Nat.reduceAdd, Nat.reduceSub, Nat.reduceLeDiff, ↓reduceIte, decide_eq_true_eq, if_true, if_false, Bool.false_eq_true, Int.lt_irrefl, aw_plan (id := 6) pl4_6, pl4_6]
  · simp (maxSteps := 1000000) (disch := first | exact sd | fail) only [go_sem, Nat.reduceAdd, Nat.reduceSub, Nat.reduceLeDiff, ↓reduceIte, decide_eq_true_eq, if_true, if_false, Bool.false_eq_true, Int.lt_irrefl, aw_plan (id := 6) pl4_6, pl4_6, List.any_cons, List.any_nil, Bool.or_false, show decide (40 < l.length) = false by simpa using h0]
    have hle1 : Hle H ((H.push (.row true 24 [.bool ng, sl])).push (.row true 24 [.bool ng, sl])) := (Hle.push0 _).push _
    have hg1 : ((H.push (.row true 24 [.bool ng, sl])).push (.row true 24 [.bool ng, sl])).get H.next = some (.row true 24 [.bool ng, sl]) := get_box ((Hle.push0 _))
    have hlt : H.next < ((H.push (.row true 24 [.bool ng, sl])).push (.row true 24 [.bool ng, sl])).next := by simp; omega
    generalize ((H.push (.row true 24 [.bool ng, sl])).push (.row true 24 [.bool ng, sl])) = H1 at *
    refine (c48 (h.mono hle1) (by omega)).mono ?_
    rintro _ H2 ⟨rfl, h2⟩
    have hg2 := (h2.get _ hlt).trans hg1
    simp (maxSteps := 1000000) (disch := first | exact sd | fail) only [go_sem, Nat.reduceAdd, Nat.reduceSub, Nat.reduceLeDiff, ↓reduceIte, decide_eq_true_eq, if_true, if_false, Bool.false_eq_true, Int.lt_irrefl, aw_plan (id := 6) pl4_6, pl4_6, hg2]
    refine (c49 (h.mono (hle1.trans h2)) (by omega)).mono ?_
    rintro _ H3 ⟨rfl, h3⟩
    have h23 := h2.trans h3
    have hg3 := (h23.get _ hlt).trans hg1
    simp (maxSteps := 1000000) (disch := first | exact sd | fail) only [go_sem, Nat.reduceAdd, Nat.reduceSub, Nat.reduceLeDiff, ↓reduceIte, decide_eq_true_eq, if_true, if_false, Bool.false_eq_true, Int.lt_irrefl, aw_plan (id := 6) pl4_6, pl4_6, hg3]
    refine (c50 hn).mono ?_
    rintro r4 H4 ⟨hr4, h4⟩
    simp (maxSteps := 1000000) (disch := first | exact sd | fail) only [go_sem, Nat.reduceAdd, Nat.reduceSub, Nat.reduceLeDiff, ↓reduceIte, decide_eq_true_eq, if_true, if_false, Bool.false_eq_true, Int.lt_irrefl, aw_plan (id := 6) pl4_6, pl4_6]
    have h24 := h23.trans h4
    refine (c48 hr4 (by have := len_ofR n; omega)).mono ?_
    rintro _ H5 ⟨rfl, h5⟩
    have h25 := h24.trans h5
    have hg5 := (h25.get _ hlt).trans hg1
    simp (maxSteps := 1000000) (disch := first | exact sd | fail) only [go_sem, Nat.reduceAdd, Nat.reduceSub, Nat.reduceLeDiff, ↓reduceIte, decide_eq_true_eq, if_true, if_false, Bool.false_eq_true, Int.lt_irrefl, aw_plan (id := 6) pl4_6, pl4_6, hg5, aw_plan (id := 6) ⟨[0, 2], [(1, [2], []), (3, [], [4, 5, 6, 7, 8, 9, 10, 11, 12, 13, 14, 15, 16, 18]), (17, [], []), (19, [], []), (20, [], [21, 22, 23, 24, 25, 26, 27, 28, 29, 30]), (31, [], [32, 33])]⟩]
    refine (c51 (h.mono (hle1.trans h25)) (by omega)).mono ?_
    rintro _ H6 ⟨rfl, h6⟩
    have h26 := h25.trans h6
    have hg6 := (h26.get _ hlt).trans hg1
    simp (maxSteps := 1000000) (disch := first | exact sd | fail) only [go_sem, Nat.reduceAdd, Nat.reduceSub, Nat.reduceLeDiff, ↓reduceIte, decide_eq_true_eq, if_true, if_false, Bool.false_eq_true, Int.lt_irrefl, aw_plan (id := 6) pl4_6, pl4_6, hg6, implies_true, true_and]
    refine (c52 (h.mono (hle1.trans h26)) (by omega)).mono ?_
    rintro _ H7 ⟨rfl, h7⟩
    simp (maxSteps := 1000000) (disch := first | exact sd | fail) only [go_sem, Nat.reduceAdd, Nat.reduceSub, Nat.reduceLeDiff, ↓reduceIte, decide_eq_true_eq, if_true, if_false, Bool.false_eq_true, Int.lt_irrefl, aw_plan (id := 6) pl4_6, pl4_6, beq_self_eq_true, eq_self]
    refine (c50 hn).mono ?_
    rintro r8 H8 ⟨hr8, h8⟩
    simp (maxSteps := 1000000) (disch := first | exact sd | fail) only [go_sem, Nat.reduceAdd, Nat.reduceSub, Nat.reduceLeDiff, ↓reduceIte, decide_eq_true_eq, if_true, if_false, Bool.false_eq_true, Int.lt_irrefl, aw_plan (id := 6) pl4_6, pl4_6, beq_self_eq_true, eq_self]
    refine (c53 hn).mono ?_
    rintro r9 H9 ⟨hr9, h9⟩
    simp (maxSteps := 1000000) (disch := first | exact sd | fail) only [go_sem, Nat.reduceAdd, Nat.reduceSub, Nat.reduceLeDiff, ↓reduceIte, decide_eq_true_eq, if_true, if_false, Bool.false_eq_true, Int.lt_irrefl, aw_plan (id := 6) pl4_6, pl4_6, beq_self_eq_true, eq_self]
    refine (c44 (hr8.mono h9) hr9 (by have := len_ofR n; omega)).mono ?_
    rintro _ H10 ⟨rfl, h10⟩
    simp (maxSteps := 1000000) (disch := first | exact sd | fail) only [go_sem, Nat.reduceAdd, Nat.reduceSub, Nat.reduceLeDiff, ↓reduceIte, decide_eq_true_eq, if_true, if_false, Bool.false_eq_true, Int.lt_irrefl, aw_plan (id := 6) pl4_6, pl4_6, beq_self_eq_true, eq_self, and_self, toR_of hn]
    refine (c41 _).mono ?_
    rintro _ H11 ⟨rfl, rfl⟩
    simp (maxSteps := 1000000) (disch := first | exact sd | fail) only [go_sem, Nat.reduceAdd, Nat.reduceSub, Nat.reduceLeDiff, ↓reduceIte, decide_eq_true_eq, if_true, if_false, Bool.false_eq_true, Int.lt_irrefl, aw_plan (id := 6) pl4_6, pl4_6]
end Go.Abs
