/- What laws on quotients call beside. -/
import Derived.Test.YtfadclnaahanmaaGreatV5
set_option linter.unusedVariables false
set_option linter.unusedSimpArgs false
namespace Go.Abs
open Go Go.Proofs
set_option maxRecDepth 100000
set_option maxHeartbeats 4000000
theorem rows1_4 {z a b c d : Value} : rFill 4 z 1 [(0, .agg ⟨[a, b, c, d]⟩)] = some [a, b, c, d] := rFill1 rfl
theorem rows2_4 {z a b c d a1 b1 c1 d1 : Value} : rFill 4 z 2 [(0, .agg ⟨[a, b, c, d]⟩), (1, .agg ⟨[a1, b1, c1, d1]⟩)] = some [a, b, c, d, a1, b1, c1, d1] := rFill2 rfl rfl
attribute [go_sem] rows1_4 rows2_4
def gq (a : RQ) : Bool := decide (6 < a.p.l.length) || decide (6 < a.q.l.length)
theorem pu_Qs {l : List RQ} : Pu (Vv eQ l) := .fz (Pus.flat fun _ _ => .cons (.ground rfl) (.cons pu_U (.cons (.ground rfl) (.cons pu_U .nil))))
theorem p69 {ls : List RQ} (hb : ls.length ≤ 9223372036854775807) : PC Tryz.prog 23 [Vv eQ ls] (.bool (ls.any gq)) := by
  refine PC.of (.cons pu_Qs .nil) (.ground rfl) fun N hN => ?_
  refine ACalls.of_code T.hm (n := 27) Tryz.func23 rfl rfl rfl rfl ?_; simp only [List.replicate_succ, List.replicate_zero, List.cons_append, List.nil_append]
  simp (maxSteps := 1000000) (disch := first | exact sd | fail) only [go_sem, Nat.reduceAdd, Nat.reduceSub, Nat.reduceLeDiff, ↓reduceIte, decide_eq_true_eq, if_true, if_false, Bool.false_eq_true, Int.lt_irrefl, implies_true, true_and, and_true, eq_self, and_self, beq_self_eq_true]
  refine aw_loopS (σ := Nat) (fun k J => [Vv eQ ls, J 1, .bool false, .int .i64 k, J 4, J 5, J 6, J 7, J 8, J 9, J 10, J 11, J 12, J 13, J 14, J 15, J 16, J 17, J 18, J 19, J 20, J 21, J 22, J 23, J 24, J 25, J 26, J 27]) (fun m k => m = ls.length - k ∧ k ≤ ls.length ∧ ∀ i, i < k → ∀ p, ls[i]? = some p → gq p = false) ls.length 0 rfl ⟨rfl, Nat.zero_le _, fun i hi => by omega⟩ ?_
  rintro m k J ⟨rfl, hk, hall⟩
  by_cases h4 : (k : Int) < ls.length
  · have hk' : k < ls.length := by omega
    have eg : ls.getD k eQ.d = ls[k] := by rw [List.getD_eq_getElem?_getD, List.getElem?_eq_getElem hk']; rfl
    have ht (h : gq ls[k] = true) : (ls.any gq) = true := by
      rw [List.any_eq_true]
      exact ⟨ls[k], List.getElem_mem hk', h⟩
    by_cases h5 : (6 : Int) < (ls[k]).p.l.length
    · simp (maxSteps := 1000000) (disch := first | exact sd | fail) only [go_sem, Nat.reduceAdd, Nat.reduceSub, Nat.reduceLeDiff, ↓reduceIte, decide_eq_true_eq, if_true, if_false, Bool.false_eq_true, Int.lt_irrefl, implies_true, true_and, and_true, eq_self, and_self, beq_self_eq_true, h4, Int.toNat_natCast, eg, h5]
      rw [ht (by unfold gq; simp; omega)]
      exact .rfl
    · by_cases h6 : (6 : Int) < (ls[k]).q.l.length
      · simp (maxSteps := 1000000) (disch := first | exact sd | fail) only [go_sem, Nat.reduceAdd, Nat.reduceSub, Nat.reduceLeDiff, ↓reduceIte, decide_eq_true_eq, if_true, if_false, Bool.false_eq_true, Int.lt_irrefl, implies_true, true_and, and_true, eq_self, and_self, beq_self_eq_true, h4, Int.toNat_natCast, eg, h5, h6]
        rw [ht (by unfold gq; simp; omega)]
        exact .rfl
      · simp (maxSteps := 1000000) (disch := first | exact sd | fail) only [go_sem, Nat.reduceAdd, Nat.reduceSub, Nat.reduceLeDiff, ↓reduceIte, decide_eq_true_eq, if_true, if_false, Bool.false_eq_true, Int.lt_irrefl, implies_true, true_and, and_true, eq_self, and_self, beq_self_eq_true, h4, Int.toNat_natCast, eg, h5, h6]
        refine IJ_intro (k := ls.length - (k + 1)) (by omega) (k + 1) rfl ⟨⟨rfl, by omega, fun i hi p hp => ?_⟩, rfl⟩
        by_cases h6 : i = k
        · subst h6
          rw [List.getElem?_eq_getElem hk'] at hp
          injection hp with hp; subst hp
          unfold gq
          simp; omega
        · exact hall i (by omega) p hp
  · simp (maxSteps := 1000000) (disch := first | exact sd | fail) only [go_sem, Nat.reduceAdd, Nat.reduceSub, Nat.reduceLeDiff, ↓reduceIte, decide_eq_true_eq, if_true, if_false, Bool.false_eq_true, Int.lt_irrefl, implies_true, true_and, and_true, eq_self, and_self, beq_self_eq_true, h4]
    have : (ls.any gq) = false := by
      rw [List.any_eq_false]
      intro p hp
      obtain ⟨i, hi, rfl⟩ := List.getElem_of_mem hp
      have := hall i (by omega) _ (List.getElem?_eq_getElem hi)
      simp [this]
    rw [this]
    exact .rfl
end Go.Abs
