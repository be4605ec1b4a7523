/- The document's sums and differences of limbs. -/
import Derived.Test.YtboekagofficpaaGreatNd
set_option linter.unusedVariables false
set_option linter.unusedSimpArgs false
namespace Go.Abs
open Go Go.Proofs
set_option maxRecDepth 100000
set_option maxHeartbeats 40000000
set_option linter.unusedSimpArgs false


theorem c158 {H : Heap} {sa sb : Value} {a b : List Int} (hu : U Tryz.prog H sa a) (hv : U Tryz.prog H sb b) (ha : Lim a) (hb : Lim b) (hl : a.length ≤ 2 ^ 40) (hl2 : b.length ≤ 2 ^ 40) :
    ACalls Tryz.prog 144 [sa, sb] H fun r H' => ∃ l, U Tryz.prog H' r l ∧ Lim l ∧ val l = val a + val b ∧ l.length ≤ max a.length b.length + 1 ∧ Top l ∧ Hle H H' := by
  refine ACalls.of_code T.hm (n := 55) Tryz.func144 rfl rfl rfl rfl ?_; simp only [List.replicate_succ, List.replicate_zero, List.cons_append, List.nil_append]
  simp (maxSteps := 1000000) (disch := first | exact sd | fail) only [go_sem, Nat.reduceAdd, Nat.reduceSub, Nat.reduceLeDiff, ↓reduceIte, decide_eq_true_eq, if_true, if_false, Bool.false_eq_true, Int.lt_irrefl, implies_true, true_and, and_true, eq_self, and_self, beq_self_eq_true]
  refine aw_loopJ (σ := Nat × Value × Int × List Int) (fun s J => [sa, sb, J 2, J 3, .slice none 0 0, s.2.1, .int .u64 s.2.2.1, .int .i64 s.1, J 8, J 9, J 10, J 11, J 12, J 13, J 14, J 15, J 16, J 17, J 18, J 19, J 20, J 21, J 22, J 23, J 24, J 25, J 26, J 27, J 28, J 29, J 30, J 31, J 32, J 33, J 34, J 35, J 36, J 37, J 38, J 39, J 40, J 41, J 42, J 43, J 44, J 45, J 46, J 47, J 48, J 49, J 50, J 51, J 52, J 53, J 54, J 55, J 56]) (fun n s H1 => n = max a.length b.length + 1 - s.1 ∧ s.1 ≤ max a.length b.length + 1 ∧ Hle H H1 ∧ (0 ≤ s.2.2.1 ∧ s.2.2.1 ≤ 1) ∧ UO Tryz.prog H H1 s.2.1 s.2.2.2 ∧ s.2.2.2.length = s.1 ∧ Lim s.2.2.2 ∧ val s.2.2.2 + 4294967296 ^ s.1 * (s.2.2.1 + val (a.drop s.1) + val (b.drop s.1)) = val a + val b ∧ (s.1 = max a.length b.length + 1 → s.2.2.1 = 0)) (max a.length b.length + 1) (0, .slice none 0 0, 0, []) rfl ⟨rfl, Nat.zero_le _, Hle.rfl, (by first | omega | (dsimp only; omega)), .nil, rfl, Lim.nil, by simp [val], fun _ => rfl⟩ ?_
  rintro n ⟨k, so, c, o⟩ J H1 ⟨rfl, hk, hle, hc, ho, hol, holim, he, hend⟩
  simp only at hk hc ho hol holim he hend
  have hx1 := hu.mono hle
  have hy1 := hv.mono hle
  have hxk := ha.getD k
  have hyk := hb.getD k
  have hst := add_step (a := a) (b := b) hol he
  have v1 := wrap_u64' hxk.1 (Int.lt_trans hxk.2 (by decide))
  have v2 := wrap_u64' hyk.1 (Int.lt_trans hyk.2 (by decide))
  have v3 := wrap_u64' (z := c + a.getD k 0) (by omega) (by omega)
  have v4 := wrap_u64' (z := c + b.getD k 0) (by omega) (by omega)
  have v5 := wrap_u64' (z := c + a.getD k 0 + b.getD k 0) (by omega) (by omega)
  by_cases b1 : (k : Int) < a.length <;> by_cases b2 : (k : Int) < b.length <;> by_cases b3 : 0 < c
  · skip
    obtain ⟨h6, h7, h8⟩ := ho.append1 (x := (c + a.getD k 0 + b.getD k 0) % 4294967296) hle (by omega)
    simp (maxSteps := 1000000) (disch := first | exact sd | fail) only [go_sem, Nat.reduceAdd, Nat.reduceSub, Nat.reduceLeDiff, ↓reduceIte, decide_eq_true_eq, if_true, if_false, Bool.false_eq_true, Int.lt_irrefl, implies_true, true_and, and_true, eq_self, and_self, beq_self_eq_true, b1, b2, b3, hx1.len T.i22, hx1.addr Tryz.underlying70 T.s50 T.z50, hx1.loadh T.r50,  hy1.len T.i22,  hy1.addr Tryz.underlying70 T.s50 T.z50,  hy1.loadh T.r50, Int.toNat_natCast, v1, v2, v3, v5, wrap_u32, h6]
    exact IJ_intro (k := max a.length b.length + 1 - (k + 1)) (by omega) (k + 1, _, (c + a.getD k 0 + b.getD k 0) / 4294967296, o ++ [(c + a.getD k 0 + b.getD k 0) % 4294967296]) rfl ⟨rfl, (by first | omega | (dsimp only; omega)), h8, (by first | omega | (dsimp only; omega)), h7, by simp [hol], holim.append (Lim.cons (by omega) Lim.nil), hst, (by first | omega | (dsimp only; omega))⟩
  · skip
    obtain ⟨h6, h7, h8⟩ := ho.append1 (x := (c + a.getD k 0 + b.getD k 0) % 4294967296) hle (by omega)
    simp (maxSteps := 1000000) (disch := first | exact sd | fail) only [go_sem, Nat.reduceAdd, Nat.reduceSub, Nat.reduceLeDiff, ↓reduceIte, decide_eq_true_eq, if_true, if_false, Bool.false_eq_true, Int.lt_irrefl, implies_true, true_and, and_true, eq_self, and_self, beq_self_eq_true, b1, b2, b3, hx1.len T.i22, hx1.addr Tryz.underlying70 T.s50 T.z50, hx1.loadh T.r50,  hy1.len T.i22,  hy1.addr Tryz.underlying70 T.s50 T.z50,  hy1.loadh T.r50, Int.toNat_natCast, v1, v2, v3, v5, wrap_u32, h6]
    exact IJ_intro (k := max a.length b.length + 1 - (k + 1)) (by omega) (k + 1, _, (c + a.getD k 0 + b.getD k 0) / 4294967296, o ++ [(c + a.getD k 0 + b.getD k 0) % 4294967296]) rfl ⟨rfl, (by first | omega | (dsimp only; omega)), h8, (by first | omega | (dsimp only; omega)), h7, by simp [hol], holim.append (Lim.cons (by omega) Lim.nil), hst, (by first | omega | (dsimp only; omega))⟩
  · rw [show b.getD k 0 = 0 from getD_none (by omega), Int.add_zero] at hst
    obtain ⟨h6, h7, h8⟩ := ho.append1 (x := (c + a.getD k 0) % 4294967296) hle (by omega)
    simp (maxSteps := 1000000) (disch := first | exact sd | fail) only [go_sem, Nat.reduceAdd, Nat.reduceSub, Nat.reduceLeDiff, ↓reduceIte, decide_eq_true_eq, if_true, if_false, Bool.false_eq_true, Int.lt_irrefl, implies_true, true_and, and_true, eq_self, and_self, beq_self_eq_true, b1, b2, b3, hx1.len T.i22, hx1.addr Tryz.underlying70 T.s50 T.z50, hx1.loadh T.r50,  hy1.len T.i22,  hy1.addr Tryz.underlying70 T.s50 T.z50,  hy1.loadh T.r50, Int.toNat_natCast, v1, v3, wrap_u32, h6]
    exact IJ_intro (k := max a.length b.length + 1 - (k + 1)) (by omega) (k + 1, _, (c + a.getD k 0) / 4294967296, o ++ [(c + a.getD k 0) % 4294967296]) rfl ⟨rfl, (by first | omega | (dsimp only; omega)), h8, (by first | omega | (dsimp only; omega)), h7, by simp [hol], holim.append (Lim.cons (by omega) Lim.nil), hst, (by first | omega | (dsimp only; omega))⟩
  · rw [show b.getD k 0 = 0 from getD_none (by omega), Int.add_zero] at hst
    obtain ⟨h6, h7, h8⟩ := ho.append1 (x := (c + a.getD k 0) % 4294967296) hle (by omega)
    simp (maxSteps := 1000000) (disch := first | exact sd | fail) only [go_sem, Nat.reduceAdd, Nat.reduceSub, Nat.reduceLeDiff, ↓reduceIte, decide_eq_true_eq, if_true, if_false, Bool.false_eq_true, Int.lt_irrefl, implies_true, true_and, and_true, eq_self, and_self, beq_self_eq_true, b1, b2, b3, hx1.len T.i22, hx1.addr Tryz.underlying70 T.s50 T.z50, hx1.loadh T.r50,  hy1.len T.i22,  hy1.addr Tryz.underlying70 T.s50 T.z50,  hy1.loadh T.r50, Int.toNat_natCast, v1, v3, wrap_u32, h6]
    exact IJ_intro (k := max a.length b.length + 1 - (k + 1)) (by omega) (k + 1, _, (c + a.getD k 0) / 4294967296, o ++ [(c + a.getD k 0) % 4294967296]) rfl ⟨rfl, (by first | omega | (dsimp only; omega)), h8, (by first | omega | (dsimp only; omega)), h7, by simp [hol], holim.append (Lim.cons (by omega) Lim.nil), hst, (by first | omega | (dsimp only; omega))⟩
  · rw [show a.getD k 0 = 0 from getD_none (by omega), Int.add_zero] at hst
    obtain ⟨h6, h7, h8⟩ := ho.append1 (x := (c + b.getD k 0) % 4294967296) hle (by omega)
    simp (maxSteps := 1000000) (disch := first | exact sd | fail) only [go_sem, Nat.reduceAdd, Nat.reduceSub, Nat.reduceLeDiff, ↓reduceIte, decide_eq_true_eq, if_true, if_false, Bool.false_eq_true, Int.lt_irrefl, implies_true, true_and, and_true, eq_self, and_self, beq_self_eq_true, b1, b2, b3, hx1.len T.i22, hx1.addr Tryz.underlying70 T.s50 T.z50, hx1.loadh T.r50,  hy1.len T.i22,  hy1.addr Tryz.underlying70 T.s50 T.z50,  hy1.loadh T.r50, Int.toNat_natCast, v2, v4, wrap_u32, h6]
    exact IJ_intro (k := max a.length b.length + 1 - (k + 1)) (by omega) (k + 1, _, (c + b.getD k 0) / 4294967296, o ++ [(c + b.getD k 0) % 4294967296]) rfl ⟨rfl, (by first | omega | (dsimp only; omega)), h8, (by first | omega | (dsimp only; omega)), h7, by simp [hol], holim.append (Lim.cons (by omega) Lim.nil), hst, (by first | omega | (dsimp only; omega))⟩
  · rw [show a.getD k 0 = 0 from getD_none (by omega), Int.add_zero] at hst
    obtain ⟨h6, h7, h8⟩ := ho.append1 (x := (c + b.getD k 0) % 4294967296) hle (by omega)
    simp (maxSteps := 1000000) (disch := first | exact sd | fail) only [go_sem, Nat.reduceAdd, Nat.reduceSub, Nat.reduceLeDiff, ↓reduceIte, decide_eq_true_eq, if_true, if_false, Bool.false_eq_true, Int.lt_irrefl, implies_true, true_and, and_true, eq_self, and_self, beq_self_eq_true, b1, b2, b3, hx1.len T.i22, hx1.addr Tryz.underlying70 T.s50 T.z50, hx1.loadh T.r50,  hy1.len T.i22,  hy1.addr Tryz.underlying70 T.s50 T.z50,  hy1.loadh T.r50, Int.toNat_natCast, v2, v4, wrap_u32, h6]
    exact IJ_intro (k := max a.length b.length + 1 - (k + 1)) (by omega) (k + 1, _, (c + b.getD k 0) / 4294967296, o ++ [(c + b.getD k 0) % 4294967296]) rfl ⟨rfl, (by first | omega | (dsimp only; omega)), h8, (by first | omega | (dsimp only; omega)), h7, by simp [hol], holim.append (Lim.cons (by omega) Lim.nil), hst, (by first | omega | (dsimp only; omega))⟩
  · rw [show a.getD k 0 = 0 from getD_none (by omega), show b.getD k 0 = 0 from getD_none (by omega), Int.add_zero, Int.add_zero] at hst
    obtain ⟨h6, h7, h8⟩ := ho.append1 (x := (c) % 4294967296) hle (by omega)
    simp (maxSteps := 1000000) (disch := first | exact sd | fail) only [go_sem, Nat.reduceAdd, Nat.reduceSub, Nat.reduceLeDiff, ↓reduceIte, decide_eq_true_eq, if_true, if_false, Bool.false_eq_true, Int.lt_irrefl, implies_true, true_and, and_true, eq_self, and_self, beq_self_eq_true, b1, b2, b3, hx1.len T.i22, hx1.addr Tryz.underlying70 T.s50 T.z50, hx1.loadh T.r50,  hy1.len T.i22,  hy1.addr Tryz.underlying70 T.s50 T.z50,  hy1.loadh T.r50, Int.toNat_natCast, b1, wrap_u32, h6]
    exact IJ_intro (k := max a.length b.length + 1 - (k + 1)) (by omega) (k + 1, _, (c) / 4294967296, o ++ [(c) % 4294967296]) rfl ⟨rfl, (by first | omega | (dsimp only; omega)), h8, (by first | omega | (dsimp only; omega)), h7, by simp [hol], holim.append (Lim.cons (by omega) Lim.nil), hst, (by first | omega | (dsimp only; omega))⟩
  · have hc0 : c = 0 := by omega
    subst hc0
    rw [List.drop_of_length_le (show a.length ≤ k by omega), List.drop_of_length_le (show b.length ≤ k by omega)] at he
    simp only [val, Int.add_zero, Int.mul_zero] at he
    simp (maxSteps := 1000000) (disch := first | exact sd | fail) only [go_sem, Nat.reduceAdd, Nat.reduceSub, Nat.reduceLeDiff, ↓reduceIte, decide_eq_true_eq, if_true, if_false, Bool.false_eq_true, Int.lt_irrefl, implies_true, true_and, and_true, eq_self, and_self, beq_self_eq_true, b1, b2, b3, hx1.len T.i22, hx1.addr Tryz.underlying70 T.s50 T.z50, hx1.loadh T.r50,  hy1.len T.i22,  hy1.addr Tryz.underlying70 T.s50 T.z50,  hy1.loadh T.r50]
    refine (c215 ho.u (by omega)).mono ?_
    rintro r _ ⟨hr, rfl⟩
    simp (maxSteps := 1000000) (disch := first | exact sd | fail) only [go_sem, Nat.reduceAdd, Nat.reduceSub, Nat.reduceLeDiff, ↓reduceIte, decide_eq_true_eq, if_true, if_false, Bool.false_eq_true, Int.lt_irrefl, implies_true, true_and, and_true, eq_self, and_self, beq_self_eq_true]
    exact ⟨_, hr, holim.trimL, by rw [val_trimL, he], Nat.le_trans (length_trimL _) (by omega), top_trimL _, hle⟩
end Go.Abs
