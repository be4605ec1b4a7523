/- Numbers of an int64. -/
import Derived.Test.YtgblhcnkfcjalaaN5
set_option linter.unusedVariables false
set_option linter.unusedSimpArgs false
namespace Go.Abs
open Go Go.Proofs
set_option maxRecDepth 10000
set_option linter.unusedSimpArgs false

/-- An int64's limbs, with noughts on top. -/
def ofR (n : Int) : List Int := [(n.natAbs : Int) % 4294967296, (n.natAbs : Int) / 4294967296]
theorem lim_ofR {n : Int} (h : -9223372036854775808 ≤ n ∧ n ≤ 9223372036854775807) : Lim (ofR n) := Lim.cons (by omega) (Lim.cons (by omega) Lim.nil)
theorem ofR_nil {n : Int} (h : trimL (ofR n) = []) : n = 0 := by
  have := congrArg val h
  rw [val_trimL] at this
  simp only [ofR, val] at this
  omega
theorem ofR_neg {n : Int} : (if trimL (ofR n) = [] then false else decide (n < 0)) = decide (n < 0) := by
  split
  · rename_i h; have := ofR_nil h; simp [this]
  · rfl

theorem Sl.setbox {H : Heap} {es n : Nat} {sl : Value} {cells : List Value} (h : Sl Try.prog H es sl n cells) {b : Nat} {el : TypeId} {cs : List Value} (hg : H.get b = some (.row true el cs)) (hne : szOf Try.prog el ≠ es) (o : AObj) : Sl Try.prog (H.set b o) es sl n cells := by
  cases h with
  | nil => exact .nil
  | void => exact .void
  | row hg' hb he hc hl =>
    refine .row ?_ hb he hc hl
    rw [get_set_ne]; exact hg'
    rintro rfl
    rw [hg] at hg'
    injection hg' with e
    injection e with e1 e2 e3
    subst e1; subst e2
    rcases he with he | he
    · cases he
    · exact hne he
theorem IA.setbox {H : Heap} {v : Value} {ng : Bool} {l : List Int} (h : IA Try.prog H v ng l) {b : Nat} {cs : List Value} (hg : H.get b = some (.row true 24 cs)) (o : AObj) : IA Try.prog (H.set b o) v ng l := by
  obtain ⟨sl, h1, h2, h3⟩ := h
  exact ⟨sl, h1, Sl.setbox h2 hg (by rw [T.s24]; decide) o, h3⟩

theorem c50 {H : Heap} {n : Int} (hn : -9223372036854775808 ≤ n ∧ n ≤ 9223372036854775807) : ACalls Try.prog 25 [.int .i64 n] H fun r H' => IA Try.prog H' r (decide (n < 0)) (trimL (ofR n)) ∧ Hle H H' := by
  refine ACalls.of_code T.hm (n := 18) Try.func25 rfl rfl rfl rfl ?_; simp only [List.replicate_succ, List.replicate_zero, List.cons_append, List.nil_append]
  by_cases h0 : n < 0
  · simp (maxSteps := 1000000) (disch := first | exact sd | fail) only [go_sem, Nat.reduceAdd, Nat.reduceSub, Nat.reduceLeDiff, ↓reduceIte, decide_eq_true_eq, if_true, if_false, Bool.false_eq_true, Int.lt_irrefl, h0, wrap_u64]
    refine c151.mono ?_
    rintro _ H1 ⟨rfl, h1⟩
    simp (maxSteps := 1000000) (disch := first | exact sd | fail) only [go_sem, Nat.reduceAdd, Nat.reduceSub, Nat.reduceLeDiff, ↓reduceIte, decide_eq_true_eq, if_true, if_false, Bool.false_eq_true, Int.lt_irrefl, h0, wrap_u64]
    refine c151.mono ?_
    rintro _ H2 ⟨rfl, h2⟩
    simp (maxSteps := 1000000) (disch := first | exact sd | fail) only [go_sem, Nat.reduceAdd, Nat.reduceSub, Nat.reduceLeDiff, ↓reduceIte, decide_eq_true_eq, if_true, if_false, Bool.false_eq_true, Int.lt_irrefl, h0, wrap_u64]
    have e : [Value.int IntKind.u32 (-(n % 18446744073709551616) % 18446744073709551616 % 4294967296), Value.int IntKind.u32 (-(n % 18446744073709551616) % 18446744073709551616 / 4294967296 % 4294967296)] = (ofR n).map (.int .u32) := by
      simp only [ofR, List.map_cons, List.map_nil, List.cons.injEq, Value.int.injEq, true_and, and_true]
      omega
    rw [e]
    refine (c144 (UO.fresh (H0 := H2) Hle.rfl rfl (by simp [unk, ofR]) (by simp [ofR])).u (lim_ofR hn) (by simp [ofR])).mono ?_
    rintro r H3 ⟨hr, h3⟩
    have hle := (h1.trans h2).trans ((Hle.push0 _).trans h3)
    have hg := get_box hle
    have hr' := hr
    obtain ⟨sl, rfl, hu, hl⟩ := hr'
    have hy := hu.isSl
    simp (maxSteps := 1000000) (disch := first | exact sd | fail) only [go_sem, Nat.reduceAdd, Nat.reduceSub, Nat.reduceLeDiff, ↓reduceIte, decide_eq_true_eq, if_true, if_false, Bool.false_eq_true, Int.lt_irrefl, hg]
    have hne := ofR_neg (n := n)
    simp only [h0, decide_true] at hne
    rw [hne] at hr ⊢
    exact ⟨hr.setbox hg _, ((Hle.push0 _).trans hle).set (Nat.le_refl _) _⟩
  · simp (maxSteps := 1000000) (disch := first | exact sd | fail) only [go_sem, Nat.reduceAdd, Nat.reduceSub, Nat.reduceLeDiff, ↓reduceIte, decide_eq_true_eq, if_true, if_false, Bool.false_eq_true, Int.lt_irrefl, h0, wrap_u64]
    refine c151.mono ?_
    rintro _ H1 ⟨rfl, h1⟩
    simp (maxSteps := 1000000) (disch := first | exact sd | fail) only [go_sem, Nat.reduceAdd, Nat.reduceSub, Nat.reduceLeDiff, ↓reduceIte, decide_eq_true_eq, if_true, if_false, Bool.false_eq_true, Int.lt_irrefl, h0, wrap_u64]
    refine c151.mono ?_
    rintro _ H2 ⟨rfl, h2⟩
    simp (maxSteps := 1000000) (disch := first | exact sd | fail) only [go_sem, Nat.reduceAdd, Nat.reduceSub, Nat.reduceLeDiff, ↓reduceIte, decide_eq_true_eq, if_true, if_false, Bool.false_eq_true, Int.lt_irrefl, h0, wrap_u64]
    have e : [Value.int IntKind.u32 (n % 18446744073709551616 % 4294967296), Value.int IntKind.u32 (n % 18446744073709551616 / 4294967296 % 4294967296)] = (ofR n).map (.int .u32) := by
      simp only [ofR, List.map_cons, List.map_nil, List.cons.injEq, Value.int.injEq, true_and, and_true]
      omega
    rw [e]
    refine (c144 (UO.fresh (H0 := H2) Hle.rfl rfl (by simp [unk, ofR]) (by simp [ofR])).u (lim_ofR hn) (by simp [ofR])).mono ?_
    rintro r H3 ⟨hr, h3⟩
    have hle := (h1.trans h2).trans ((Hle.push0 _).trans h3)
    have hg := get_box hle
    have hr' := hr
    obtain ⟨sl, rfl, hu, hl⟩ := hr'
    have hy := hu.isSl
    simp (maxSteps := 1000000) (disch := first | exact sd | fail) only [go_sem, Nat.reduceAdd, Nat.reduceSub, Nat.reduceLeDiff, ↓reduceIte, decide_eq_true_eq, if_true, if_false, Bool.false_eq_true, Int.lt_irrefl, hg]
    have hne := ofR_neg (n := n)
    simp only [h0, decide_false] at hne
    rw [hne] at hr ⊢
    exact ⟨hr.setbox hg _, ((Hle.push0 _).trans hle).set (Nat.le_refl _) _⟩
end Go.Abs
