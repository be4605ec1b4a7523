/- Joined: N9, N10, N11. -/
import Derived.Test.YtboekagofficpaaGreatNb
/- More limbs than a statement reckons with. -/
set_option linter.unusedVariables false
set_option linter.unusedSimpArgs false
namespace Go.Abs
open Go Go.Proofs
set_option maxRecDepth 10000
set_option linter.unusedSimpArgs false

/-- A slice of numbers: at each place a sign and limbs. -/
def IAs (H : Heap) (sl : Value) (ls : List (Bool × List Int)) : Prop :=
  ∃ cells, Sl Tryz.prog H 2 sl ls.length cells ∧ ∀ i ng l, ls[i]? = some (ng, l) → ∃ s, cells[i * 2]? = some (.bool ng) ∧ cells[i * 2 + 1]? = some s ∧ U Tryz.prog H s l ∧ Lim l

theorem c40 {H : Heap} {sl : Value} {ls : List (Bool × List Int)} (h : IAs H sl ls) (hb : ls.length < 2 ^ 62) : ACalls Tryz.prog 26 [sl] H fun r H' => r = .bool (ls.any fun p => decide (40 < p.2.length)) ∧ H' = H := by
  obtain ⟨cells, hs, hc⟩ := h
  have hlen := hs.length
  refine ACalls.of_code T.hm (n := 16) Tryz.func26 rfl rfl rfl rfl ?_; simp only [List.replicate_succ, List.replicate_zero, List.cons_append, List.nil_append]
  simp (maxSteps := 1000000) (disch := first | exact sd | fail) only [go_sem, Nat.reduceAdd, Nat.reduceSub, Nat.reduceLeDiff, ↓reduceIte, decide_eq_true_eq, if_true, if_false, Bool.false_eq_true, Int.lt_irrefl]
  refine aw_loopJ (σ := Nat) (fun k J => [sl, J 1, .bool false, .int .i64 k, J 4, J 5, J 6, J 7, J 8, J 9, J 10, J 11, J 12, J 13, J 14, J 15, J 16]) (fun n k H1 => n = ls.length - k ∧ H1 = H ∧ k ≤ ls.length ∧ ∀ i, i < k → ∀ p, ls[i]? = some p → ¬ 40 < p.2.length) ls.length 0 rfl ⟨rfl, rfl, Nat.zero_le _, fun i hi => by omega⟩ ?_
  rintro n k J H1 ⟨rfl, rfl, hk, hall⟩
  by_cases h4 : (k : Int) < ls.length
  · have hk' : k < ls.length := by omega
    obtain ⟨s, c1, c2, hu, hl⟩ := hc k (ls[k]).1 (ls[k]).2 (by rw [List.getElem?_eq_getElem hk'])
    have hld : aLoad Tryz.prog H1 70 (.pointer (some (sadr sl (k * 2 + 1)))) = some s := by rw [hs.load T.r22 (by omega), c2]
    by_cases h5 : 40 < (ls[k]).2.length
    · simp (maxSteps := 1000000) (disch := first | exact sd | fail) only [go_sem, Nat.reduceAdd, Nat.reduceSub, Nat.reduceLeDiff, ↓reduceIte, decide_eq_true_eq, if_true, if_false, Bool.false_eq_true, Int.lt_irrefl, hs.len T.i147, h4, hs.addr Tryz.underlying69 T.s24 T.z24, Int.toNat_natCast, hld, hu.len T.i22, show (40 : Int) < (ls[k]).2.length by omega]
      refine ⟨?_, by trivial⟩
      have : (ls.any fun p => decide (40 < p.2.length)) = true := by
        rw [List.any_eq_true]
        exact ⟨ls[k], List.getElem_mem hk', by simpa using h5⟩
      rw [this]
    · simp (maxSteps := 1000000) (disch := first | exact sd | fail) only [go_sem, Nat.reduceAdd, Nat.reduceSub, Nat.reduceLeDiff, ↓reduceIte, decide_eq_true_eq, if_true, if_false, Bool.false_eq_true, Int.lt_irrefl, hs.len T.i147, h4, hs.addr Tryz.underlying69 T.s24 T.z24, Int.toNat_natCast, hld, hu.len T.i22, show ¬ (40 : Int) < (ls[k]).2.length by omega]
      refine IJ_intro (k := ls.length - (k + 1)) (by omega) (k + 1) rfl ⟨rfl, rfl, by omega, fun i hi p hp => ?_⟩
      by_cases h6 : i = k
      · subst h6
        rw [List.getElem?_eq_getElem hk'] at hp
        injection hp with hp; subst hp; exact h5
      · exact hall i (by omega) p hp
  · simp (maxSteps := 1000000) (disch := first | exact sd | fail) only [go_sem, Nat.reduceAdd, Nat.reduceSub, Nat.reduceLeDiff, ↓reduceIte, decide_eq_true_eq, if_true, if_false, Bool.false_eq_true, Int.lt_irrefl, hs.len T.i147, h4]
    refine ⟨?_, by trivial⟩
    have : (ls.any fun p => decide (40 < p.2.length)) = false := by
      rw [List.any_eq_false]
      intro p hp
      obtain ⟨i, hi, rfl⟩ := List.getElem_of_mem hp
      have := hall i (by omega) _ (List.getElem?_eq_getElem hi)
      simpa using this
    rw [this]
end Go.Abs

/- The document's examples. -/
set_option linter.unusedVariables false
set_option linter.unusedSimpArgs false
namespace Go.Abs
open Go Go.Proofs
end Go.Abs

/- NumForms, on abstract values. -/
set_option linter.unusedVariables false
set_option linter.unusedSimpArgs false
namespace Go.Abs
open Go Go.Proofs
set_option maxRecDepth 10000
set_option linter.unusedSimpArgs false

def pl4_6 : Plan := ⟨[0, 2], [(1, [2], []), (3, [], [4, 5, 6, 7, 8, 9, 10, 11, 12, 13, 14, 15, 16, 18]), (17, [], []), (19, [], []), (20, [], [21, 22, 23, 24, 25, 26, 27, 28, 29, 30]), (31, [], [32, 33])]⟩
theorem rows1_2 {z a b : Value} : rFill 2 z 1 [(0, .agg ⟨[a, b]⟩)] = some [a, b] := rFill1 rfl
theorem rows2_2 {z a b c d : Value} : rFill 2 z 2 [(0, .agg ⟨[a, b]⟩), (1, .agg ⟨[c, d]⟩)] = some [a, b, c, d] := rFill2 rfl rfl
theorem rows3_2 {z a b c d e f : Value} : rFill 2 z 3 [(0, .agg ⟨[a, b]⟩), (1, .agg ⟨[c, d]⟩), (2, .agg ⟨[e, f]⟩)] = some [a, b, c, d, e, f] := rFill3 rfl rfl rfl
attribute [go_sem] rows1_2 rows2_2 rows3_2

theorem IAs.one {H : Heap} {sl : Value} {ng : Bool} {l : List Int} (hu : U Tryz.prog H sl l) (hl : Lim l) : IAs (H.push (.row true 72 [.bool ng, sl])) (.slice (some ⟨H.next, 0, none⟩) 1 1) [(ng, l)] := by
  refine ⟨[.bool ng, sl], ?_, ?_⟩
  · exact Sl.row (P := Tryz.prog) (es := 2) (n := 1) (off := 0) (cs := [.bool ng, sl]) (get_push_self _ _) (by simp) (.inr T.s24) (.inr ⟨Nat.le_refl _, by unfold unk; omega⟩) (by simp)
  · intro i ng' l' h
    match i, h with
    | 0, h =>
      simp only [List.getElem?_cons_zero, Option.some.injEq, Prod.mk.injEq] at h
      obtain ⟨rfl, rfl⟩ := h
      exact ⟨sl, rfl, rfl, hu.mono (Hle.push0 _), hl⟩
    | i + 1, h => simp at h

theorem len_ofR (n : Int) : (trimL (ofR n)).length ≤ 2 := length_trimL (ofR n)
theorem may_ofR {n : Int} : mayB (decide (n < 0)) (trimL (ofR n)) = true := by
  unfold mayB
  split
  · rename_i h
    have h0 : n = 0 := ofR_nil (List.length_eq_zero_iff.1 h)
    simp [h0]
  · rename_i h
    have := top_trimL (ofR n)
    rcases this with h' | h'
    · exact absurd h' h
    · simpa using h'
theorem toR_of {n : Int} (hn : -9223372036854775808 ≤ n ∧ n ≤ 9223372036854775807) : toR (nzS (decide (n < 0)) (trimL (ofR n))) (nzL (decide (n < 0)) (trimL (ofR n))) = (n, true) := by
  have hl := len_ofR n
  have hv : val (trimL (ofR n)) = n.natAbs := by
    rw [val_trimL]
    simp only [ofR, val]
    omega
  unfold nzS nzL
  rw [may_ofR]
  simp only [if_true, toR]
  rw [if_neg (by omega), hv]
  by_cases h : n < 0
  · rw [if_pos (by simp [h]), if_pos (by omega)]
    congr 1
    omega
  · rw [if_neg (by simp [h]), if_pos (by omega)]
    congr 1
    omega

end Go.Abs
