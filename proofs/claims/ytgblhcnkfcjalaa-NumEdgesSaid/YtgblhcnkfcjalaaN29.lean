/- One limb of 1, and noughts beneath. -/
import Derived.Test.YtgblhcnkfcjalaaN22
set_option linter.unusedVariables false
set_option linter.unusedSimpArgs false
namespace Go.Abs
open Go Go.Proofs
set_option maxRecDepth 100000
set_option maxHeartbeats 40000000

theorem val_rep0 : ∀ n, val (List.replicate n 0) = 0
  | 0 => rfl
  | n + 1 => by simp [List.replicate_succ, val, val_rep0 n]
theorem val_limb (k : Nat) : val (List.replicate k 0 ++ [1]) = 4294967296 ^ k := by
  rw [val_append, val_rep0, val_one, List.length_replicate]; omega
theorem val_repB : ∀ n, val (List.replicate n 4294967295) = 4294967296 ^ n - 1
  | 0 => by simp [val]
  | n + 1 => by rw [List.replicate_succ, val, val_repB n, Int.pow_succ]; omega
theorem lim_rep {n : Nat} {x : Int} (hx : 0 ≤ x ∧ x < 4294967296) : Lim (List.replicate n x) := fun y hy => by rw [List.eq_of_mem_replicate hy]; exact hx
theorem rep_set0 {k : Nat} : (List.replicate (k + 1) (0 : Int)).set k 1 = List.replicate k 0 ++ [1] := by
  rw [List.replicate_succ', List.set_append_right _ _ (by simp), List.length_replicate, Nat.sub_self]; rfl
theorem natAbs_pow (k : Nat) : ((4294967296 : Int) ^ k).natAbs = 4294967296 ^ k := by
  rw [Int.natAbs_pow]; rfl
theorem pow_pos' (k : Nat) : (0 : Int) < 4294967296 ^ k := Int.pow_pos (by decide)
theorem limbs_pow (k : Nat) : limbs ((4294967296 : Int) ^ k).natAbs = List.replicate k 0 ++ [1] := by
  symm
  refine limbs_of' ((lim_rep (by omega)).append (Lim.cons (by omega) Lim.nil)) ?_ ?_
  · right
    rw [List.length_append, List.length_replicate, List.length_singleton, Nat.add_sub_cancel, List.getD_eq_getElem?_getD, List.getElem?_append_right (by simp), List.length_replicate, Nat.sub_self]
    simp
  · rw [val_limb]
    have := pow_pos' k
    omega
theorem limbs_pred (k : Nat) : limbs ((4294967296 : Int) ^ k - 1).natAbs = List.replicate k 4294967295 := by
  symm
  refine limbs_of' (lim_rep (by omega)) ?_ ?_
  · cases k with
    | zero => left; rfl
    | succ k =>
      right
      rw [List.length_replicate, Nat.add_sub_cancel, List.getD_eq_getElem?_getD, List.getElem?_replicate, if_pos (by omega)]
      simp
  · rw [val_repB]
    have := pow_pos' k
    omega
theorem ln_pow (k : Nat) : ln ((4294967296 : Int) ^ k) = k + 1 := by
  unfold ln; rw [limbs_pow]; simp

theorem w62 {H : Heap} {k : Nat} (hk : k ≤ 1000) : ACalls Try.prog 37 [.int .i64 k] H fun r H' => IN H' r (4294967296 ^ k) ∧ ln ((4294967296 : Int) ^ k) ≤ k + 1 ∧ Hle H H' := by
  refine ACalls.of_code T.hm (n := 11) Try.func37 rfl rfl rfl rfl ?_; simp only [List.replicate_succ, List.replicate_zero, List.cons_append, List.nil_append]
  simp (maxSteps := 1000000) (disch := first | exact sd | fail) only [go_sem, Nat.reduceAdd, Nat.reduceSub, Nat.reduceLeDiff, ↓reduceIte, decide_eq_true_eq, if_true, if_false, Bool.false_eq_true, Int.lt_irrefl, implies_true, true_and, and_true, eq_self, and_self, beq_self_eq_true, show ((k : Int) + 1).toNat = k + 1 by omega, aMk_int]
  have oO := zeros_own (H := H.push (.row true 24 [.bool false, .slice none 0 0])) (n := k + 1) (by omega)
  rw [show (H.push (.row true 24 [.bool false, .slice none 0 0])).next = H.next + 1 from rfl] at oO
  have oo := oO.u
  obtain ⟨s1, s2, s3⟩ := oO.store (o := k) (x := 1) (Hle.push0 _) (by simp)
  have hlr : (List.replicate (k + 1) (0 : Int)).length = k + 1 := List.length_replicate
  simp (maxSteps := 1000000) (disch := first | exact sd | fail) only [go_sem, Nat.reduceAdd, Nat.reduceSub, Nat.reduceLeDiff, ↓reduceIte, decide_eq_true_eq, if_true, if_false, Bool.false_eq_true, Int.lt_irrefl, implies_true, true_and, and_true, eq_self, and_self, beq_self_eq_true, oo.len T.i22, oo.addr Try.underlying22 T.s50 T.z50, oo.loadh T.r50, Int.toNat_natCast, s1]
  generalize hso : Value.slice (some ⟨H.next + 1, 0, none⟩) (k + 1) (k + 1) = so at *
  have hys : isSl so = true := by rw [← hso]; rfl
  have hs2 : (List.replicate (k + 1) (0 : Int)).set k 1 = List.replicate k 0 ++ [1] := by
    have := rep_set0 (k := k)
    exact this
  rw [hs2] at s2
  generalize wr ((H.push (.row true 24 [.bool false, .slice none 0 0])).push (.row true 50 (List.replicate (k + 1) (.int .u32 0)))) so k (.int .u32 1) = H2 at *
  have n2 := s3.next
  simp only [next_push] at n2
  have g2 : H2.get H.next = some (.row true 24 [.bool false, .slice none 0 0]) := by simp (maxSteps := 1000000) (disch := first | exact sd | fail) only [go_sem, Nat.reduceAdd, Nat.reduceSub, Nat.reduceLeDiff, ↓reduceIte, decide_eq_true_eq, if_true, if_false, Bool.false_eq_true, Int.lt_irrefl, implies_true, true_and, and_true, eq_self, and_self, beq_self_eq_true, s3.get]
  have q2 : Hle H H2 := (Hle.push0 _).trans s3
  simp (maxSteps := 1000000) (disch := first | exact sd | fail) only [go_sem, Nat.reduceAdd, Nat.reduceSub, Nat.reduceLeDiff, ↓reduceIte, decide_eq_true_eq, if_true, if_false, Bool.false_eq_true, Int.lt_irrefl, implies_true, true_and, and_true, eq_self, and_self, beq_self_eq_true, g2]
  have hia : IN H2 (.agg ⟨[.bool false, so]⟩) (4294967296 ^ k) := by
    unfold IN
    rw [limbs_pow, show decide ((4294967296 : Int) ^ k < 0) = false by have := pow_pos' k; simp; omega]
    exact ⟨so, rfl, s2.u, (lim_rep (by omega)).append (Lim.cons (by omega) Lim.nil)⟩
  exact ⟨hia.setbox g2 _, by rw [ln_pow]; omega, Hle.auto⟩
end Go.Abs
