/- Numbers: the shortest limbs, in memory of their own. -/
import Derived.Test.YtgblhcnkfcjalaaN2
set_option linter.unusedVariables false
set_option linter.unusedSimpArgs false
namespace Go.Abs
open Go Go.Proofs
set_option maxRecDepth 10000
set_option linter.unusedSimpArgs false

/-- Without so many on top all above is nought. -/
theorem trimL_take {l : List Int} : ∀ (k : Nat), k ≤ l.length → (∀ j, k ≤ j → j < l.length → l.getD j 0 = 0) → trimL l = trimL (l.take k) := by
  intro k hk h
  induction hm : l.length - k generalizing k with
  | zero => rw [List.take_of_length_le (by omega)]
  | succ m ih =>
    rw [ih (k + 1) (by omega) (fun j h1 h2 => h j (by omega) h2) (by omega)]
    rw [List.take_add_one, show l[k]? = some (l.getD k 0) by rw [List.getD_eq_getElem?_getD, List.getElem?_eq_getElem (by omega)]; simp, h k (Nat.le_refl _) (by omega)]
    exact trimL_snoc _

theorem c144 {H : Heap} {sl : Value} {ng : Bool} {l : List Int} (hu : U Try.prog H sl l) (hl : Lim l) (hb : l.length ≤ 35184372088732) : ACalls Try.prog 46 [.bool ng, sl] H fun r H' => IA Try.prog H' r (if trimL l = [] then false else ng) (trimL l) ∧ Hle H H' := by
  refine ACalls.of_code T.hm (n := 27) Try.func46 rfl rfl rfl rfl ?_; simp only [List.replicate_succ, List.replicate_zero, List.cons_append, List.nil_append]
  simp (maxSteps := 1000000) (disch := first | exact sd | fail) only [go_sem, Nat.reduceAdd, Nat.reduceSub, Nat.reduceLeDiff, ↓reduceIte, decide_eq_true_eq, if_true, if_false, Bool.false_eq_true, Int.lt_irrefl, hu.len T.i22]
  refine aw_loopJ (σ := Nat) (fun k J => [.bool ng, sl, J 2, J 3, .pointer (some ⟨H.next, 0, none⟩), .int .i64 k, J 6, J 7, J 8, J 9, J 10, J 11, J 12, J 13, J 14, J 15, J 16, J 17, J 18, J 19, J 20, J 21, J 22, J 23, J 24, J 25, J 26, J 27, J 28]) (fun n k H1 => n = k ∧ H1 = H.push (.row true 24 [.bool false, .slice none 0 0]) ∧ k ≤ l.length ∧ ∀ j, k ≤ j → j < l.length → l.getD j 0 = 0) l.length l.length rfl ⟨rfl, rfl, Nat.le_refl _, fun j h1 h2 => by omega⟩ ?_
  rintro n k J H1 ⟨rfl, rfl, hk, hz⟩
  by_cases h0 : (0 : Int) < n
  · by_cases h1 : l.getD (n - 1) 0 = 0
    · simp (maxSteps := 1000000) (disch := first | exact sd | fail) only [go_sem, Nat.reduceAdd, Nat.reduceSub, Nat.reduceLeDiff, ↓reduceIte, decide_eq_true_eq, if_true, if_false, Bool.false_eq_true, Int.lt_irrefl, h0, hu.addr Try.underlying22 T.s50 T.z50, hu.loadh T.r50, show (↑n - 1 : Int).toNat = n - 1 by omega, h1]
      rw [show (↑n - 1 : Int) = ((n - 1 : Nat) : Int) by omega]
      refine IJ_intro (k := n - 1) (by omega) (n - 1) rfl ⟨rfl, rfl, by omega, fun j h2 h3 => ?_⟩
      by_cases h4 : j = n - 1
      · rw [h4]; exact h1
      · exact hz j (by omega) h3
    · obtain ⟨sl', h2, h3⟩ := (hu.mono (Hle.push0 (.row true 24 [.bool false, .slice none 0 0]))).upto Try.underlying22 T.z50 (k := .i64) (i := n) (by omega) (by omega)
      rw [Int.toNat_natCast] at h3
      have ht : trimL l = l.take n := by
        rw [trimL_take n hk hz, trimL_of_top]
        right
        rw [List.length_take, Nat.min_eq_left hk]
        rw [List.getD_eq_getElem?_getD, List.getElem?_take, if_pos (by omega), ← List.getD_eq_getElem?_getD]
        exact h1
      simp (maxSteps := 1000000) (disch := first | exact sd | fail) only [go_sem, Nat.reduceAdd, Nat.reduceSub, Nat.reduceLeDiff, ↓reduceIte, decide_eq_true_eq, if_true, if_false, Bool.false_eq_true, Int.lt_irrefl, h0, hu.addr Try.underlying22 T.s50 T.z50, hu.loadh T.r50, show (↑n - 1 : Int).toNat = n - 1 by omega, h1, h2, show ¬ (n : Int) = 0 by omega]
      refine (c209 h3 (by rw [List.length_take]; omega)).mono ?_
      rintro r H' ⟨h4, h5⟩
      have hy := h4.u.isSl
      have hg : H'.get H.next = some (.row true 24 [.bool false, .slice none 0 0]) := by rw [h5.get _ (by simp)]; exact get_push_self _ _
      simp (maxSteps := 1000000) (disch := first | exact sd | fail) only [go_sem, Nat.reduceAdd, Nat.reduceSub, Nat.reduceLeDiff, ↓reduceIte, decide_eq_true_eq, if_true, if_false, Bool.false_eq_true, Int.lt_irrefl, hg]
      have hle : Hle H (H'.set H.next (.row true 24 [.bool ng, r])) := ((Hle.push0 _).trans h5).set (Nat.le_refl _) _
      have hne : trimL l ≠ [] := by
        rw [ht]; intro h; have := congrArg List.length h; rw [List.length_take, List.length_nil] at this; omega
      rw [if_neg hne]
      refine ⟨⟨r, rfl, ?_, hl.trimL⟩, hle⟩
      rw [ht]
      refine UO.u (H0 := H.push (.row true 24 [.bool false, .slice none 0 0])) (Ow.keep h4 (fun b _ hb _ => get_set_ne (by simp at hb; omega)) (Nat.le_refl _))
  · have hn0 : n = 0 := by omega
    subst hn0
    have ht : trimL l = [] := by rw [trimL_take 0 (by omega) (fun j h1 h2 => hz j h1 h2)]; rfl
    simp (maxSteps := 1000000) (disch := first | exact sd | fail) only [go_sem, Nat.reduceAdd, Nat.reduceSub, Nat.reduceLeDiff, ↓reduceIte, decide_eq_true_eq, if_true, if_false, Bool.false_eq_true, Int.lt_irrefl, Int.natCast_zero, Int.lt_irrefl, ht]
    exact ⟨⟨_, rfl, .nil, Lim.nil⟩, (Hle.push0 _).set (Nat.le_refl _) _⟩
end Go.Abs
