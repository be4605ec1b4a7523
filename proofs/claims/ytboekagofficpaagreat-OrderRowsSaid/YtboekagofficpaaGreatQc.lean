/- Joined: Q3, Q5. -/
import Derived.Test.YtboekagofficpaaGreatQb
import Derived.Test.YtboekagofficpaaGreatN26
import Derived.Test.YtboekagofficpaaGreatBg
import Derived.Test.YtboekagofficpaaGreatA30
/- Quotients, and what divides both: calls of values. -/
set_option linter.unusedVariables false
set_option linter.unusedSimpArgs false
namespace Go.Abs
open Go Go.Proofs
set_option maxRecDepth 100000
set_option maxHeartbeats 40000000

def pl42_1 : Plan := ⟨[0, 2], [(1, [2], []), (3, [], [4, 5])]⟩
def pl42_8 : Plan := ⟨[0, 2, 5, 7, 9, 10], [(1, [7, 2], []), (3, [7], [4]), (6, [7], []), (8, [], []), (11, [], []), (12, [], []), (13, [], [14])]⟩
def pl42_10 : Plan := ⟨[0, 2, 5, 7, 9], [(1, [7, 2], []), (3, [7], [4]), (6, [7], []), (8, [], []), (10, [], []), (11, [], []), (12, [], [13])]⟩
def pl46_1 : Plan := ⟨[0, 3, 6, 7], [(1, [3], []), (2, [3], []), (4, [], []), (5, [], []), (8, [], []), (9, [], [])]⟩
def pl46_4 : Plan := ⟨[0, 1], [(2, [1], []), (3, [], [])]⟩
theorem sg_neg {x : Int} : (sg x < 0) ↔ x < 0 := by
  unfold sg; split
  · omega
  · split <;> omega
theorem fz_nil0 {H : Heap} : FzRel Tryz.prog H (.agg ⟨[.bool (sgn 0), Vv eU (lmb 0)]⟩) (.agg ⟨[.bool false, .slice none 0 0]⟩) := by rw [lmb_zero]; exact fz_nil
end Go.Abs

/- What laws on numbers call beside: how many limbs, errors, nought. -/
set_option linter.unusedVariables false
set_option linter.unusedSimpArgs false
namespace Go.Abs
open Go Go.Proofs
set_option maxRecDepth 100000
set_option maxHeartbeats 4000000

theorem ln_den {n : Bool} {l : List Int} (hl : Lim l) : ln (den n l) ≤ l.length := by
  have := nz_limbs (ng := n) hl
  unfold ln
  rw [← this]
  unfold nzL
  split
  · exact Nat.le_refl _
  · simp
variable {P : Program} {H : Heap} {K : Value → Heap → Prop} {g : FuncId}
/-- A call that looks at an own slice. -/
theorem PC.peek1 {b n c es : Nat} {own : Bool} {el : TypeId} {cells : List Value} {r : Value} (hg : H.get b = some (.row own el cells)) (hb : b < H.next) (hc : c = unk ∨ (n ≤ c ∧ c < unk)) (he : 0 < es) (hs : own = false ∨ szOf P el = es) (hl : cells.length = n * es)
    (h : PC P g [fzv n cells] r) (hr : ground r = true) (k : K r H) : ACalls P g [.slice (some ⟨b, 0, none⟩) n c] H K := by
  have hsl := Sl.row (P := P) (es := es) (off := 0) (n := n) (c := c) hg hb hs hc (by omega)
  rw [List.drop_zero, List.take_of_length_le (by omega)] at hsl
  exact h.peek hr (.cons (.sl he hsl .refl) .nil) k
theorem p45 {x : Int} : PC Tryz.prog 15 [.int .i64 x] (.int .i64 x) := by
  refine PC.of (.cons (.ground rfl) .nil) (.ground rfl) fun N hN => ?_
  refine ACalls.of_code T.hm (n := 3) Tryz.func15 rfl rfl rfl rfl ?_; simp only [List.replicate_succ, List.replicate_zero, List.cons_append, List.nil_append]
  simp (maxSteps := 1000000) (disch := first | exact sd | fail) only [go_sem, Nat.reduceAdd, Nat.reduceSub, Nat.reduceLeDiff, ↓reduceIte, decide_eq_true_eq, if_true, if_false, Bool.false_eq_true, Int.lt_irrefl, implies_true, true_and, and_true, eq_self, and_self, beq_self_eq_true]
  exact .rfl
theorem p40 {ls : List RI} (hb : ls.length < 2 ^ 62) : PC Tryz.prog 26 [Vv eI ls] (.bool (ls.any fun a => decide (40 < a.l.length))) := by
  refine PC.of (.cons pu_Is .nil) (.ground rfl) fun N hN => ?_
  refine ACalls.of_code T.hm (n := 16) Tryz.func26 rfl rfl rfl rfl ?_; simp only [List.replicate_succ, List.replicate_zero, List.cons_append, List.nil_append]
  simp (maxSteps := 1000000) (disch := first | exact sd | fail) only [go_sem, Nat.reduceAdd, Nat.reduceSub, Nat.reduceLeDiff, ↓reduceIte, decide_eq_true_eq, if_true, if_false, Bool.false_eq_true, Int.lt_irrefl, implies_true, true_and, and_true, eq_self, and_self, beq_self_eq_true]
  refine aw_loopS (σ := Nat) (fun k J => [Vv eI ls, J 1, .bool false, .int .i64 k, J 4, J 5, J 6, J 7, J 8, J 9, J 10, J 11, J 12, J 13, J 14, J 15, J 16]) (fun m k => m = ls.length - k ∧ k ≤ ls.length ∧ ∀ i, i < k → ∀ p, ls[i]? = some p → ¬ 40 < p.l.length) ls.length 0 rfl ⟨rfl, Nat.zero_le _, fun i hi => by omega⟩ ?_
  rintro m k J ⟨rfl, hk, hall⟩
  by_cases h4 : (k : Int) < ls.length
  · have hk' : k < ls.length := by omega
    have eg : ls.getD k eI.d = ls[k] := by rw [List.getD_eq_getElem?_getD, List.getElem?_eq_getElem hk']; rfl
    by_cases h5 : (40 : Int) < (ls[k]).l.length
    · simp (maxSteps := 1000000) (disch := first | exact sd | fail) only [go_sem, Nat.reduceAdd, Nat.reduceSub, Nat.reduceLeDiff, ↓reduceIte, decide_eq_true_eq, if_true, if_false, Bool.false_eq_true, Int.lt_irrefl, implies_true, true_and, and_true, eq_self, and_self, beq_self_eq_true, h4, Int.toNat_natCast, eg, h5]
      have : (ls.any fun p => decide (40 < p.l.length)) = true := by
        rw [List.any_eq_true]
        exact ⟨ls[k], List.getElem_mem hk', by simp; omega⟩
      rw [this]
      exact .rfl
    · simp (maxSteps := 1000000) (disch := first | exact sd | fail) only [go_sem, Nat.reduceAdd, Nat.reduceSub, Nat.reduceLeDiff, ↓reduceIte, decide_eq_true_eq, if_true, if_false, Bool.false_eq_true, Int.lt_irrefl, implies_true, true_and, and_true, eq_self, and_self, beq_self_eq_true, h4, Int.toNat_natCast, eg, h5]
      refine IJ_intro (k := ls.length - (k + 1)) (by omega) (k + 1) rfl ⟨⟨rfl, by omega, fun i hi p hp => ?_⟩, rfl⟩
      by_cases h6 : i = k
      · subst h6
        rw [List.getElem?_eq_getElem hk'] at hp
        injection hp with hp; subst hp; omega
      · exact hall i (by omega) p hp
  · simp (maxSteps := 1000000) (disch := first | exact sd | fail) only [go_sem, Nat.reduceAdd, Nat.reduceSub, Nat.reduceLeDiff, ↓reduceIte, decide_eq_true_eq, if_true, if_false, Bool.false_eq_true, Int.lt_irrefl, implies_true, true_and, and_true, eq_self, and_self, beq_self_eq_true, h4]
    have : (ls.any fun p => decide (40 < p.l.length)) = false := by
      rw [List.any_eq_false]
      intro p hp
      obtain ⟨i, hi, rfl⟩ := List.getElem_of_mem hp
      have := hall i (by omega) _ (List.getElem?_eq_getElem hi)
      simpa using this
    rw [this]
    exact .rfl

theorem nzI {v : Value} : Nzs [v, In false []] [v, .agg ⟨[.bool false, .slice none 0 0]⟩] := .cons .rfl (.cons (.agg (.cons .rfl (.cons .vnil .nil))) .nil)
theorem sg_bd (x : Int) : -9223372036854775808 ≤ sg x ∧ sg x ≤ 9223372036854775807 := by
  unfold sg; split
  · omega
  · split <;> omega
theorem sg_zero : sg 0 = 0 := rfl
theorem sg_eq0 {x : Int} : sg x = 0 ↔ x = 0 := by
  unfold sg; split
  · omega
  · split <;> omega
theorem sg_pos {x : Int} : 0 < sg x ↔ 0 < x := by
  unfold sg; split
  · omega
  · split <;> omega
theorem mul_sg (x : Int) : x * sg x = x.natAbs := by
  unfold sg; split
  · omega
  · split <;> omega
theorem ln_sg (x : Int) : ln (sg x) ≤ 1 := ln_small (by unfold sg; split; decide; split <;> decide)
attribute [go_sem] sg_zero
end Go.Abs
