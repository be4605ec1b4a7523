/- Numbers, as the document has them: trim, mk; numbers of an int64. -/
import Derived.Test.YtgblhcnkfcjalaaN4
set_option linter.unusedVariables false
set_option linter.unusedSimpArgs false
namespace Go.Abs
open Go Go.Proofs
set_option maxRecDepth 10000
set_option linter.unusedSimpArgs false

theorem trimL_take' {l : List Int} (n : Nat) (hk : n ≤ l.length) (hz : ∀ j, n ≤ j → j < l.length → l.getD j 0 = 0) (h : n = 0 ∨ l.getD (n - 1) 0 ≠ 0) : trimL l = l.take n := by
  rw [trimL_take n hk hz, trimL_of_top]
  rcases h with h | h
  · left; rw [h]; rfl
  by_cases h0 : n = 0
  · left; rw [h0]; rfl
  right
  rw [List.length_take, Nat.min_eq_left hk]
  rw [List.getD_eq_getElem?_getD, List.getElem?_take, if_pos (by omega), ← List.getD_eq_getElem?_getD]
  exact h

theorem c215 {H : Heap} {sl : Value} {l : List Int} (hu : U Try.prog H sl l) (hb : l.length < 2 ^ 62) : ACalls Try.prog 72 [sl] H fun r H' => U Try.prog H' r (trimL l) ∧ H' = H := by
  refine ACalls.of_code T.hm (n := 20) Try.func72 rfl rfl rfl rfl ?_; simp only [List.replicate_succ, List.replicate_zero, List.cons_append, List.nil_append]
  simp (maxSteps := 1000000) (disch := first | exact sd | fail) only [go_sem, Nat.reduceAdd, Nat.reduceSub, Nat.reduceLeDiff, ↓reduceIte, decide_eq_true_eq, if_true, if_false, Bool.false_eq_true, Int.lt_irrefl, hu.len T.i22]
  refine aw_loopJ (σ := Nat) (fun k J => [sl, J 1, J 2, .int .i64 k, J 4, J 5, J 6, J 7, J 8, J 9, J 10, J 11, J 12, J 13, J 14, J 15, J 16, J 17, J 18, J 19, J 20]) (fun n k H1 => n = k ∧ H1 = H ∧ k ≤ l.length ∧ ∀ j, k ≤ j → j < l.length → l.getD j 0 = 0) l.length l.length rfl ⟨rfl, rfl, Nat.le_refl _, fun j h1 h2 => by omega⟩ ?_
  rintro n k J H1 ⟨rfl, rfl, hk, hz⟩
  obtain ⟨sl', h2, h3⟩ := hu.upto Try.underlying22 T.z50 (k := .i64) (i := n) (by omega) (by omega)
  rw [Int.toNat_natCast] at h3
  by_cases h0 : (0 : Int) < n
  · by_cases h1 : l.getD (n - 1) 0 = 0
    · simp (maxSteps := 1000000) (disch := first | exact sd | fail) only [go_sem, Nat.reduceAdd, Nat.reduceSub, Nat.reduceLeDiff, ↓reduceIte, decide_eq_true_eq, if_true, if_false, Bool.false_eq_true, Int.lt_irrefl, h0, hu.addr Try.underlying22 T.s50 T.z50, hu.loadh T.r50, show (↑n - 1 : Int).toNat = n - 1 by omega, h1]
      rw [show (↑n - 1 : Int) = ((n - 1 : Nat) : Int) by omega]
      refine IJ_intro (k := n - 1) (by omega) (n - 1) rfl ⟨rfl, rfl, by omega, fun j h5 h6 => ?_⟩
      by_cases h4 : j = n - 1
      · rw [h4]; exact h1
      · exact hz j (by omega) h6
    · simp (maxSteps := 1000000) (disch := first | exact sd | fail) only [go_sem, Nat.reduceAdd, Nat.reduceSub, Nat.reduceLeDiff, ↓reduceIte, decide_eq_true_eq, if_true, if_false, Bool.false_eq_true, Int.lt_irrefl, h0, hu.addr Try.underlying22 T.s50 T.z50, hu.loadh T.r50, show (↑n - 1 : Int).toNat = n - 1 by omega, h1, h2]
      rw [trimL_take' n hk hz (.inr h1)]
      exact ⟨h3, by trivial⟩
  · simp (maxSteps := 1000000) (disch := first | exact sd | fail) only [go_sem, Nat.reduceAdd, Nat.reduceSub, Nat.reduceLeDiff, ↓reduceIte, decide_eq_true_eq, if_true, if_false, Bool.false_eq_true, Int.lt_irrefl, h0, h2]
    rw [trimL_take' n hk hz (.inl (by omega))]
    exact ⟨h3, by trivial⟩

theorem c150 {H : Heap} {sl : Value} {ng : Bool} {l : List Int} (hu : U Try.prog H sl l) (hl : Lim l) (hb : l.length ≤ 35184372088732) : ACalls Try.prog 52 [.bool ng, sl] H fun r H' => IA Try.prog H' r (if trimL l = [] then false else ng) (trimL l) ∧ Hle H H' := by
  refine ACalls.of_code T.hm (n := 14) Try.func52 rfl rfl rfl rfl ?_; simp only [List.replicate_succ, List.replicate_zero, List.cons_append, List.nil_append]
  simp (maxSteps := 1000000) (disch := first | exact sd | fail) only [go_sem, Nat.reduceAdd, Nat.reduceSub, Nat.reduceLeDiff, ↓reduceIte, decide_eq_true_eq, if_true, if_false, Bool.false_eq_true, Int.lt_irrefl]
  refine (c215 (hu.mono (Hle.push0 _)) (by omega)).mono ?_
  rintro r _ ⟨hr, rfl⟩
  by_cases h0 : trimL l = []
  · have h1 : (trimL l).length = 0 := by rw [h0]; rfl
    simp (maxSteps := 1000000) (disch := first | exact sd | fail) only [go_sem, Nat.reduceAdd, Nat.reduceSub, Nat.reduceLeDiff, ↓reduceIte, decide_eq_true_eq, if_true, if_false, Bool.false_eq_true, Int.lt_irrefl, hr.len T.i22, h1, Int.natCast_zero, h0]
    exact ⟨⟨_, rfl, .nil, Lim.nil⟩, (Hle.push0 _).set (Nat.le_refl _) _⟩
  · have h1 : ¬ ((trimL l).length : Int) = 0 := by
      intro h; exact h0 (List.length_eq_zero_iff.1 (by omega))
    have hlen := length_trimL l
    have h2 : UO Try.prog (H.push (.row true 24 [.bool false, .slice none 0 0])) ((H.push (.row true 24 [.bool false, .slice none 0 0])).push (.row true 50 [])) (.slice (some ⟨H.next + 1, 0, none⟩) 0 0) [] := UO.fresh Hle.rfl rfl (by simp [unk]) (by simp)
    obtain ⟨h3, h4, h5, h6, h7⟩ := h2.append (Hle.push0 _) (hr.mono (Hle.push0 _)) (by simp; omega)
    have hy := h4.u.isSl
    have hg := get_box h5
    simp (maxSteps := 1000000) (disch := first | exact sd | fail) only [go_sem, Nat.reduceAdd, Nat.reduceSub, Nat.reduceLeDiff, ↓reduceIte, decide_eq_true_eq, if_true, if_false, Bool.false_eq_true, Int.lt_irrefl, hr.len T.i22, h1, h0, h3, hg]
    have hle := ((Hle.push0 (.row true 24 [.bool false, .slice none 0 0])).trans h5).set (Nat.le_refl H.next) (.row true 24 [.bool ng, apV Try.prog ((H.push (.row true 24 [.bool false, .slice none 0 0])).push (.row true 50 [])) #[22, 22] (.slice (some ⟨H.next + 1, 0, none⟩) 0 0) r])
    refine ⟨⟨_, rfl, ?_, hl.trimL⟩, hle⟩
    exact UO.u (H0 := H.push (.row true 24 [.bool false, .slice none 0 0])) (Ow.keep h4 (fun b _ hb _ => get_set_ne (by simp at hb; omega)) (Nat.le_refl _))
end Go.Abs
