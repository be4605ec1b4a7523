/- The document's Text: a call of values. -/
import Derived.Test.YtoahhljnnjekiaaYc
set_option linter.unusedVariables false
set_option linter.unusedSimpArgs false
namespace Go.Abs
open Go Go.Proofs
set_option maxRecDepth 100000
set_option maxHeartbeats 4000000


theorem p59 {n : Bool} {l : List Int} (h1 : Lb l) (hl : l.length ≤ 2 ^ 30) : PC Try.prog 90 [In n l] (.string (bsOf (txt (den n l)))) := by
  refine PC.of (.cons pu_in .nil) (.ground rfl) fun N hN => ?_
  have hd := ln_den (n := n) h1.1
  refine ACalls.of_code T.hm (n := 68) Try.func90 rfl rfl rfl rfl ?_; simp only [List.replicate_succ, List.replicate_zero, List.cons_append, List.nil_append]
  simp (maxSteps := 1000000) (disch := first | exact sd | fail) only [go_sem, Nat.reduceAdd, Nat.reduceSub, Nat.reduceLeDiff, ↓reduceIte, decide_eq_true_eq, if_true, if_false, Bool.false_eq_true, Int.lt_irrefl, implies_true, true_and, and_true, eq_self, and_self, beq_self_eq_true]
  refine PC.step (p148 h1) fun m1 j1 => ?_
  try simp only [Heap.next_push, Heap.next_set, Heap.next_kill, next_bump, next_E0] at j1
  generalize hD : den n l = D at *
  have hlt := ln_lt D
  generalize hV : D.natAbs = V at *
  have hdl := decL_len hlt
  by_cases h0 : D = 0
  · simp (maxSteps := 1000000) (disch := first | exact sd | fail) only [go_sem, Nat.reduceAdd, Nat.reduceSub, Nat.reduceLeDiff, ↓reduceIte, decide_eq_true_eq, if_true, if_false, Bool.false_eq_true, Int.lt_irrefl, implies_true, true_and, and_true, eq_self, and_self, beq_self_eq_true, h0, lmb_zero, ln_zero, List.length_nil, Int.natCast_zero]
    rw [show txt 0 = [48] from rfl]
    exact .rfl
  have e0 : ((lmb D).length : Int) = (ln D : Nat) := rfl
  have hp0 : ¬ ((ln D : Nat) : Int) = 0 := fun h => h0 (ln_eq_zero.1 (by omega))
  simp (maxSteps := 1000000) (disch := first | exact sd | fail) only [go_sem, Nat.reduceAdd, Nat.reduceSub, Nat.reduceLeDiff, ↓reduceIte, decide_eq_true_eq, if_true, if_false, Bool.false_eq_true, Int.lt_irrefl, implies_true, true_and, and_true, eq_self, and_self, beq_self_eq_true, e0, hp0]
  generalize hH0 : (((E0 N).push (.row true 24 [.bool n, Vv eU l])).bump m1).set N (.row true 24 [.bool (sgn D), Vv eU (lmb D)]) = HB at *
  have hBn : HB.next = m1 := by rw [← hH0]; rfl
  have hBg : HB.get N = some (.row true 24 [.bool (sgn D), Vv eU (lmb D)]) := by rw [← hH0]; simp (maxSteps := 1000000) (disch := first | exact sd | fail) only [go_sem, Nat.reduceAdd, Nat.reduceSub, Nat.reduceLeDiff, ↓reduceIte, decide_eq_true_eq, if_true, if_false, Bool.false_eq_true, Int.lt_irrefl, implies_true, true_and, and_true, eq_self, and_self, beq_self_eq_true]
  have eD : lmb D = lmb (V : Int) := by unfold lmb; rw [← hV]; rfl
  rw [eD] at *
  refine aw_loopJ (σ := Nat × Value × List Int) (fun s J => [In n l, .pointer (some ⟨N, 0, none⟩), .string ByteArray.empty, s.2.1, Vv eU (lmb (s.1 : Int)), J 5, J 6, J 7, J 8, J 9, J 10, J 11, J 12, J 13, J 14, J 15, J 16, J 17, J 18, J 19, J 20, J 21, J 22, J 23, J 24, J 25, J 26, J 27, J 28, J 29, J 30, J 31, J 32, J 33, J 34, J 35, J 36, J 37, J 38, J 39, J 40, J 41, J 42, J 43, J 44, J 45, J 46, J 47, J 48, J 49, J 50, J 51, J 52, J 53, J 54, J 55, J 56, J 57, J 58, J 59, J 60, J 61, J 62, J 63, J 64, J 65, J 66, J 67, J 68]) (fun m s H1 => m = s.1 ∧ Hle HB H1 ∧ YO HB H1 s.2.1 s.2.2 ∧ s.2.2 ++ decL s.1 = decL V ∧ s.1 ≤ V) V (V, .slice none 0 0, []) rfl ⟨rfl, Hle.rfl, VO.nil, rfl, Nat.le_refl _⟩ ?_
  rintro A ⟨_, sl, bs⟩ J H1 ⟨rfl, hle, ho, hbs, hA⟩
  simp only at ho hbs hA
  have hbl : bs.length ≤ 2 ^ 36 := by
    have := congrArg List.length hbs
    rw [List.length_append] at this; omega
  have lA : ln (A : Int) ≤ 2 ^ 30 := by
    have h2 := ln_mono (a := (A : Int)) (b := D) (by rw [hV]; exact hA)
    omega
  have gN : H1.get N = some (.row true 24 [.bool (sgn D), Vv eU (lmb D)]) := (hle.get N (by omega)).trans hBg
  by_cases hA0 : A = 0
  · subst hA0
    rw [decL_zero, List.append_nil] at hbs
    subst hbs
    by_cases hs : D < 0
    · have h5 : sgn D = true := by rw [sgn_lt]; exact hs
      obtain ⟨sl2, H4, ea, oa, qa, na⟩ := YO.append1 ho hle 45 (by omega)
      simp (maxSteps := 1000000) (disch := first | exact sd | fail) only [go_sem, Nat.reduceAdd, Nat.reduceSub, Nat.reduceLeDiff, ↓reduceIte, decide_eq_true_eq, if_true, if_false, Bool.false_eq_true, Int.lt_irrefl, implies_true, true_and, and_true, eq_self, and_self, beq_self_eq_true, Int.natCast_zero, lmb_zero, ln_zero, List.length_nil, gN, h5, ea]
      have hl0 : (decL V ++ [45]).length ≤ 2 ^ 40 := by simp; omega
      have hrev : (decL V ++ [45]).reverse = txt D := by
        unfold txt
        rw [if_neg h0]
        first
        | (rw [if_pos hs, hV]; simp)
        | (rw [if_neg hs, hV])
      generalize decL V ++ [45] = L at *
      refine aw_loopJ (σ := Nat) (fun s J => [In n l, .pointer (some ⟨N, 0, none⟩), .string ByteArray.empty, sl2, J 4, J 5, J 6, .int .i64 s, J 8, J 9, J 10, J 11, J 12, J 13, J 14, J 15, J 16, J 17, J 18, J 19, J 20, J 21, J 22, J 23, J 24, J 25, J 26, J 27, J 28, J 29, J 30, J 31, J 32, J 33, J 34, J 35, J 36, J 37, J 38, J 39, J 40, J 41, J 42, J 43, J 44, J 45, J 46, J 47, J 48, J 49, J 50, J 51, J 52, J 53, J 54, J 55, J 56, J 57, J 58, J 59, J 60, J 61, J 62, J 63, J 64, J 65, J 66, J 67, J 68]) (fun m s H1 => m = L.length - s ∧ s ≤ L.length ∧ Hle HB H1 ∧ YO HB H1 sl2 (rv L s)) L.length 0 rfl ⟨rfl, Nat.zero_le _, qa, by rw [rv_zero]; exact oa⟩ ?_
      rintro m s J H5 ⟨rfl, hs5, hle5, ho5⟩
      have hn5 := rv_len L s
      have hln := ho5.len T.s5 T.i140
      rw [hn5] at hln
      have eq2 : (L.length : Int).tdiv 2 = ((L.length / 2 : Nat) : Int) := (Int.ofNat_tdiv L.length 2).symm
      by_cases h4 : (s : Int) < ((L.length / 2 : Nat) : Int)
      · have k1 : (0 : Int) ≤ (s : Int) := by omega
        have k2 : (0 : Int) ≤ (L.length : Int) - 1 - s := by omega
        have a1 := ho5.addr (k := .i64) (i := (s : Int)) k1 (by omega)
        have a2 := ho5.addr (k := .i64) (i := (L.length : Int) - 1 - s) k2 (by omega)
        rw [show ((s : Int)).toNat = s by omega] at a1
        rw [show ((L.length : Int) - 1 - s).toNat = L.length - 1 - s by omega] at a2
        have g1 := ho5.load (o := s) (by omega)
        have g2 := ho5.load (o := L.length - 1 - s) (by omega)
        obtain ⟨s1, o1⟩ := ho5.store (o := s) (x := (rv L s).getD (L.length - 1 - s) 0) (by omega)
        have q1 := ho5.hle hle5 (o := s) (v := .int .u8 ((rv L s).getD (L.length - 1 - s) 0)) (by omega)
        obtain ⟨s2, o2⟩ := o1.store (o := L.length - 1 - s) (x := (rv L s).getD s 0) (by rw [List.length_set]; omega)
        have q2 := o1.hle q1 (o := L.length - 1 - s) (v := .int .u8 ((rv L s).getD s 0)) (by rw [List.length_set]; omega)
        rw [rv_step (by omega)] at o2
        simp (maxSteps := 1000000) (disch := first | exact sd | fail) only [go_sem, Nat.reduceAdd, Nat.reduceSub, Nat.reduceLeDiff, ↓reduceIte, decide_eq_true_eq, if_true, if_false, Bool.false_eq_true, Int.lt_irrefl, implies_true, true_and, and_true, eq_self, and_self, beq_self_eq_true, eq2, h4, hln, a1, a2, g1, g2, s1, s2]
        exact IJ_intro (k := L.length - (s + 1)) (by omega) (s + 1) rfl ⟨rfl, by omega, q2, o2⟩
      · rw [rv_end (by omega)] at ho5
        simp (maxSteps := 1000000) (disch := first | exact sd | fail) only [go_sem, Nat.reduceAdd, Nat.reduceSub, Nat.reduceLeDiff, ↓reduceIte, decide_eq_true_eq, if_true, if_false, Bool.false_eq_true, Int.lt_irrefl, implies_true, true_and, and_true, eq_self, and_self, beq_self_eq_true, eq2, h4, hln]
        simp (maxSteps := 1000000) (disch := first | exact sd | fail) only [go_sem, Nat.reduceAdd, Nat.reduceSub, Nat.reduceLeDiff, ↓reduceIte, decide_eq_true_eq, if_true, if_false, Bool.false_eq_true, Int.lt_irrefl, implies_true, true_and, and_true, eq_self, and_self, beq_self_eq_true, ho5.bytes T.i140]
        rw [hrev]
        exact .rfl
    · have h5 : ¬ sgn D = true := by rw [sgn_lt]; exact hs
      simp (maxSteps := 1000000) (disch := first | exact sd | fail) only [go_sem, Nat.reduceAdd, Nat.reduceSub, Nat.reduceLeDiff, ↓reduceIte, decide_eq_true_eq, if_true, if_false, Bool.false_eq_true, Int.lt_irrefl, implies_true, true_and, and_true, eq_self, and_self, beq_self_eq_true, Int.natCast_zero, lmb_zero, ln_zero, List.length_nil, gN, h5]
      obtain ⟨sl2, hsl2⟩ : ∃ sl2, sl2 = sl := ⟨_, rfl⟩
      rw [← hsl2] at ho ⊢
      have hl0 : (decL V).length ≤ 2 ^ 40 := by simp; omega
      have hrev : (decL V).reverse = txt D := by
        unfold txt
        rw [if_neg h0]
        first
        | (rw [if_pos hs, hV]; simp)
        | (rw [if_neg hs, hV])
      generalize decL V = L at *
      refine aw_loopJ (σ := Nat) (fun s J => [In n l, .pointer (some ⟨N, 0, none⟩), .string ByteArray.empty, sl2, J 4, J 5, J 6, .int .i64 s, J 8, J 9, J 10, J 11, J 12, J 13, J 14, J 15, J 16, J 17, J 18, J 19, J 20, J 21, J 22, J 23, J 24, J 25, J 26, J 27, J 28, J 29, J 30, J 31, J 32, J 33, J 34, J 35, J 36, J 37, J 38, J 39, J 40, J 41, J 42, J 43, J 44, J 45, J 46, J 47, J 48, J 49, J 50, J 51, J 52, J 53, J 54, J 55, J 56, J 57, J 58, J 59, J 60, J 61, J 62, J 63, J 64, J 65, J 66, J 67, J 68]) (fun m s H1 => m = L.length - s ∧ s ≤ L.length ∧ Hle HB H1 ∧ YO HB H1 sl2 (rv L s)) L.length 0 rfl ⟨rfl, Nat.zero_le _, hle, by rw [rv_zero]; exact ho⟩ ?_
      rintro m s J H5 ⟨rfl, hs5, hle5, ho5⟩
      have hn5 := rv_len L s
      have hln := ho5.len T.s5 T.i140
      rw [hn5] at hln
      have eq2 : (L.length : Int).tdiv 2 = ((L.length / 2 : Nat) : Int) := (Int.ofNat_tdiv L.length 2).symm
      by_cases h4 : (s : Int) < ((L.length / 2 : Nat) : Int)
      · have k1 : (0 : Int) ≤ (s : Int) := by omega
        have k2 : (0 : Int) ≤ (L.length : Int) - 1 - s := by omega
        have a1 := ho5.addr (k := .i64) (i := (s : Int)) k1 (by omega)
        have a2 := ho5.addr (k := .i64) (i := (L.length : Int) - 1 - s) k2 (by omega)
        rw [show ((s : Int)).toNat = s by omega] at a1
        rw [show ((L.length : Int) - 1 - s).toNat = L.length - 1 - s by omega] at a2
        have g1 := ho5.load (o := s) (by omega)
        have g2 := ho5.load (o := L.length - 1 - s) (by omega)
        obtain ⟨s1, o1⟩ := ho5.store (o := s) (x := (rv L s).getD (L.length - 1 - s) 0) (by omega)
        have q1 := ho5.hle hle5 (o := s) (v := .int .u8 ((rv L s).getD (L.length - 1 - s) 0)) (by omega)
        obtain ⟨s2, o2⟩ := o1.store (o := L.length - 1 - s) (x := (rv L s).getD s 0) (by rw [List.length_set]; omega)
        have q2 := o1.hle q1 (o := L.length - 1 - s) (v := .int .u8 ((rv L s).getD s 0)) (by rw [List.length_set]; omega)
        rw [rv_step (by omega)] at o2
        simp (maxSteps := 1000000) (disch := first | exact sd | fail) only [go_sem, Nat.reduceAdd, Nat.reduceSub, Nat.reduceLeDiff, ↓reduceIte, decide_eq_true_eq, if_true, if_false, Bool.false_eq_true, Int.lt_irrefl, implies_true, true_and, and_true, eq_self, and_self, beq_self_eq_true, eq2, h4, hln, a1, a2, g1, g2, s1, s2]
        exact IJ_intro (k := L.length - (s + 1)) (by omega) (s + 1) rfl ⟨rfl, by omega, q2, o2⟩
      · rw [rv_end (by omega)] at ho5
        simp (maxSteps := 1000000) (disch := first | exact sd | fail) only [go_sem, Nat.reduceAdd, Nat.reduceSub, Nat.reduceLeDiff, ↓reduceIte, decide_eq_true_eq, if_true, if_false, Bool.false_eq_true, Int.lt_irrefl, implies_true, true_and, and_true, eq_self, and_self, beq_self_eq_true, eq2, h4, hln]
        simp (maxSteps := 1000000) (disch := first | exact sd | fail) only [go_sem, Nat.reduceAdd, Nat.reduceSub, Nat.reduceLeDiff, ↓reduceIte, decide_eq_true_eq, if_true, if_false, Bool.false_eq_true, Int.lt_irrefl, implies_true, true_and, and_true, eq_self, and_self, beq_self_eq_true, ho5.bytes T.i140]
        rw [hrev]
        exact .rfl
  · have hp : (0 : Int) < (ln (A : Int) : Nat) := by
      have : ln (A : Int) ≠ 0 := fun h => hA0 (by have := ln_eq_zero.1 h; omega)
      omega
    have e1 : ((lmb (A : Int)).length : Int) = (ln (A : Int) : Nat) := rfl
    simp (maxSteps := 1000000) (disch := first | exact sd | fail) only [go_sem, Nat.reduceAdd, Nat.reduceSub, Nat.reduceLeDiff, ↓reduceIte, decide_eq_true_eq, if_true, if_false, Bool.false_eq_true, Int.lt_irrefl, implies_true, true_and, and_true, eq_self, and_self, beq_self_eq_true, e1, hp]
    refine PC.step (p155 (lb_z (z := (A : Int)) (by omega)) (by omega)) fun m2 hm2 => ?_
    rw [val_z, Int.natAbs_natCast, show (A : Int) / 10 = ((A / 10 : Nat) : Int) by omega, show (A : Int) % 10 = ((A % 10 : Nat) : Int) by omega]
    have f1 : IntKind.u64.wrap (48 + ((A % 10 : Nat) : Int)) = ((A % 10 : Nat) : Int) + 48 := by rw [wrap_u64]; omega
    have f2 : IntKind.u8.wrap (((A % 10 : Nat) : Int) + 48) = ((A % 10 : Nat) : Int) + 48 := by rw [wrap_u8]; omega
    obtain ⟨v, H4, ea, oa, qa, na⟩ := YO.append1 (ho.bump hm2) (hle.bump hm2) (((A % 10 : Nat) : Int) + 48) (by omega)
    rw [next_bump] at ea
    simp (maxSteps := 1000000) (disch := first | exact sd | fail) only [go_sem, Nat.reduceAdd, Nat.reduceSub, Nat.reduceLeDiff, ↓reduceIte, decide_eq_true_eq, if_true, if_false, Bool.false_eq_true, Int.lt_irrefl, implies_true, true_and, and_true, eq_self, and_self, beq_self_eq_true, f1, f2, ea]
    rw [decL_pos hA0] at hbs
    exact IJ_intro (k := A / 10) (by omega) (A / 10, v, bs ++ [((A % 10 : Nat) : Int) + 48]) rfl ⟨rfl, qa, oa, by dsimp only; rw [List.append_assoc]; exact hbs, by dsimp only; omega⟩
end Go.Abs
