/- Rows cut to a length. -/
import Derived.Test.YtoahhljnnjekiaaV15
import Derived.Test.YtoahhljnnjekiaaB10
set_option linter.unusedVariables false
set_option linter.unusedSimpArgs false
namespace Go.Abs
open Go Go.Proofs
set_option maxRecDepth 100000
set_option maxHeartbeats 4000000
def plV16_96_5 : Plan := ⟨[0, 1, 2, 3, 4, 5, 6, 7, 8, 9, 10, 11, 12], [(13, [], [14])]⟩
theorem rows0 {es : Nat} {z : Value} : rFill es z 0 [] = some [] := rFill_all (vs := []) (by simp)
attribute [go_sem] rows0
def cutP (r : List RQ) (w j : Nat) : List RQ := r.take w ++ (List.range j).map fun i => rq (((w + i : Nat) : Int) : Rat)
def cutR (r : List RQ) (n : Nat) : List RQ := cutP r (min r.length n) (n - min r.length n)
def cutV (m : List (List RQ)) (n : Nat) : List (List RQ) := (List.range m.length).map fun i => cutR (rwi m i) n
theorem cutP_len {r : List RQ} {w j : Nat} (h : w ≤ r.length) : (cutP r w j).length = w + j := by unfold cutP; simp; omega
theorem cutP_zero {r : List RQ} {w : Nat} : cutP r w 0 = r.take w := by unfold cutP; simp
theorem cutP_succ {r : List RQ} {w j : Nat} : cutP r w (j + 1) = cutP r w j ++ [rq (((w + j : Nat) : Int) : Rat)] := by unfold cutP; rw [List.range_succ, List.map_append, List.append_assoc]; rfl
theorem cutR_len {r : List RQ} {n : Nat} : (cutR r n).length = n := by unfold cutR; rw [cutP_len (by omega)]; omega
theorem cutV_len {m : List (List RQ)} {n : Nat} : (cutV m n).length = m.length := by simp [cutV]
theorem rwi_cutV {m : List (List RQ)} {n j : Nat} (h : j < m.length) : rwi (cutV m n) j = cutR (rwi m j) n := by
  unfold rwi
  rw [getD_eq (by rw [cutV_len]; exact h)]
  simp [cutV, rwi]
theorem p96 {m : List (List RQ)} {n : Nat} (hm : m.length ≤ 2 ^ 30) (hn : n ≤ 2 ^ 30) (hr : ∀ j, (rwi m j).length ≤ 2 ^ 30) : PC Try.prog 47 [Vv eR m, .int .i64 n] (Vv eR (cutV m n)) := by
  refine PC.of (.cons pu_Rs (.cons (.ground rfl) .nil)) pu_Rs fun N hN => ?_
  refine ACalls.of_code T.hm (n := 41) Try.func47 rfl rfl rfl rfl ?_; simp only [List.replicate_succ, List.replicate_zero, List.cons_append, List.nil_append]
  simp (maxSteps := 1000000) (disch := first | exact sd | fail) only [go_sem, Nat.reduceAdd, Nat.reduceSub, Nat.reduceLeDiff, ↓reduceIte, decide_eq_true_eq, if_true, if_false, Bool.false_eq_true, Int.lt_irrefl, implies_true, true_and, and_true, eq_self, and_self, beq_self_eq_true, aw_plan (id := 5) plV16_96_5, plV16_96_5]
  refine aw_loopJ (σ := Nat × Value) (fun s J => [Vv eR m, .int .i64 n, J 2, J 3, .slice none 0 0, s.2, .int .i64 s.1, J 7, J 8, J 9, J 10, J 11, J 12, J 13, J 14, J 15, J 16, J 17, J 18, J 19, J 20, J 21, J 22, J 23, J 24, J 25, J 26, J 27, J 28, J 29, J 30, J 31, J 32, J 33, J 34, J 35, J 36, J 37, J 38, J 39, J 40, J 41, J 42]) (fun i s H1 => i = m.length - s.1 ∧ s.1 ≤ m.length ∧ Hle (E0 N) H1 ∧ LO Try.prog (E0 N) H1 1 46 s.2 s.1 (((List.range s.1).map fun i => cutR (rwi m i) n).flatMap eR.enc)) m.length (0, .slice none 0 0) rfl ⟨rfl, Nat.zero_le _, Hle.rfl, LO.nil⟩ ?_
  rintro i ⟨k, out⟩ J H1 ⟨rfl, hk, hle, ho⟩
  simp only at hk ho
  by_cases h4 : (k : Int) < m.length
  · have hrk := hr k
    obtain ⟨w, hw⟩ : ∃ w : Nat, w = min (rwi m k).length n := ⟨_, rfl⟩
    have ew : (if (n : Int) < (rwi m k).length then (n : Int) else (rwi m k).length) = (w : Int) := by split <;> omega
    have w0 : (0 : Int) ≤ w := by omega
    have w1 : (w : Int) ≤ (rwi m k).length := by omega
    have hrow : QO H1 (H1.push (.row true 36 [])) (.slice (some ⟨H1.next, 0, none⟩) 0 0) [] := VO.fresh (Nat.le_refl _) rfl ⟨Nat.le_refl _, by simp, by unfold unk; omega⟩ (by simp) (by decide)
    obtain ⟨v, H2, ea, oa, qa, na⟩ := VO.appendV (l2 := (rwi m k).take w) hrow (Hle.push0 _) Try.underlying46 (info_of_type Try.type36) rfl rfl T.s55 (by decide) T.o70 (fun _ _ => rfl) (by simp; omega) (by rw [List.length_take, List.length_nil]; show _ * 64 ≤ _; omega)
    rw [List.nil_append] at oa
    simp (maxSteps := 1000000) (disch := first | exact sd | fail) only [go_sem, Nat.reduceAdd, Nat.reduceSub, Nat.reduceLeDiff, ↓reduceIte, decide_eq_true_eq, if_true, if_false, Bool.false_eq_true, Int.lt_irrefl, implies_true, true_and, and_true, eq_self, and_self, beq_self_eq_true, aw_plan (id := 5) plV16_96_5, plV16_96_5, h4, Int.toNat_natCast, show m.getD k [] = rwi m k from rfl, ew, w0, w1, ea]
    have hn1 : 0 < H1.next := by have := hle.next; rw [next_E0] at this; omega
    have hsb := ho.sblk_lt hn1
    refine aw_loopJ (σ := Nat × Value) (fun s J => [Vv eR m, .int .i64 n, J 2, J 3, .slice none 0 0, out, .int .i64 k, s.2, J 8, J 9, J 10, J 11, J 12, J 13, J 14, J 15, J 16, J 17, J 18, J 19, J 20, J 21, J 22, J 23, J 24, J 25, J 26, J 27, J 28, J 29, J 30, J 31, J 32, J 33, J 34, J 35, J 36, J 37, J 38, J 39, J 40, J 41, J 42]) (fun i s H' => i = n - (w + s.1) ∧ w + s.1 ≤ n ∧ Hle H1 H' ∧ QO H1 H' s.2 (cutP (rwi m k) w s.1)) (n - w) (0, v) rfl ⟨rfl, by dsimp only; omega, qa, by rw [cutP_zero]; exact oa⟩ ?_
    clear hrow ea oa qa na
    rintro i ⟨l, sl⟩ J H' ⟨rfl, hl, hle2, hs⟩
    simp only at hl hs
    have hlen := hs.len T.s55 T.i70
    rw [cutP_len (by omega)] at hlen
    by_cases h5 : ((w + l : Nat) : Int) < n
    · simp (maxSteps := 1000000) (disch := first | exact sd | fail) only [go_sem, Nat.reduceAdd, Nat.reduceSub, Nat.reduceLeDiff, ↓reduceIte, decide_eq_true_eq, if_true, if_false, Bool.false_eq_true, Int.lt_irrefl, implies_true, true_and, and_true, eq_self, and_self, beq_self_eq_true, aw_plan (id := 5) plV16_96_5, plV16_96_5, h4, hlen, h5]
      refine PC.step (p77 (x := ((w + l : Nat) : Int)) (by omega)) fun m1 j1 => ?_
      try simp only [Heap.next_push, Heap.next_set, Heap.next_kill, next_bump, next_E0] at j1
      obtain ⟨v', H4, ea, oa, qa, na⟩ := QO.append1 (hs.bump j1) (Hle.bump hle2 j1) (((w + l : Nat) : Int) : Rat) (by rw [cutP_len (by omega)]; omega)
      rw [next_bump] at ea
      simp (maxSteps := 1000000) (disch := first | exact sd | fail) only [go_sem, Nat.reduceAdd, Nat.reduceSub, Nat.reduceLeDiff, ↓reduceIte, decide_eq_true_eq, if_true, if_false, Bool.false_eq_true, Int.lt_irrefl, implies_true, true_and, and_true, eq_self, and_self, beq_self_eq_true, aw_plan (id := 5) plV16_96_5, plV16_96_5, ea]
      exact IJ_intro (k := n - (w + (l + 1))) (by omega) (l + 1, v') rfl ⟨rfl, by dsimp only; omega, qa, by rw [cutP_succ]; exact oa⟩
    · have hfx : Fx Try.prog (E0 N).next H' (sblk out) (Vv eQ (cutR (rwi m k) n)) sl := by
        have e : cutR (rwi m k) n = cutP (rwi m k) w l := by unfold cutR; rw [← hw, show n - w = l by omega]
        rw [e]
        exact Fx.row hs T.s55 (by decide) hle.next hsb
      have h1c := hs.isSl
      rcases isSl_form h1c with ⟨b0, n0, c0, rfl⟩ | ⟨t0, u0, rfl⟩
      · obtain ⟨v', H4, ea, oa, qa, na⟩ := LO.append1 (us := [.slice b0 n0 c0]) (qs := [Vv eQ (cutR (rwi m k) n)]) (ho.mono hle2) (hle.trans hle2) Try.underlying48 (info_of_type Try.type46) rfl rfl T.s70 (by decide) T.o72 (.cons hfx .nil) rfl rfl (by omega) (by show _ * 24 ≤ _; omega)
        have pf : pFill (.slice none 0 0) 1 [(0, .slice b0 n0 c0)] = some [.slice b0 n0 c0] := rfl
        simp (maxSteps := 1000000) (disch := first | exact sd | fail) only [go_sem, Nat.reduceAdd, Nat.reduceSub, Nat.reduceLeDiff, ↓reduceIte, decide_eq_true_eq, if_true, if_false, Bool.false_eq_true, Int.lt_irrefl, implies_true, true_and, and_true, eq_self, and_self, beq_self_eq_true, aw_plan (id := 5) plV16_96_5, plV16_96_5, hlen, h5, pf, ea]
        exact IJ_intro (k := m.length - (k + 1)) (by omega) (k + 1, v') rfl ⟨rfl, by dsimp only; omega, qa, by rw [List.range_succ, List.map_append, List.flatMap_append]; exact oa⟩
      · cases hs
  · have e : k = m.length := by omega
    subst e
    simp (maxSteps := 1000000) (disch := first | exact sd | fail) only [go_sem, Nat.reduceAdd, Nat.reduceSub, Nat.reduceLeDiff, ↓reduceIte, decide_eq_true_eq, if_true, if_false, Bool.false_eq_true, Int.lt_irrefl, implies_true, true_and, and_true, eq_self, and_self, beq_self_eq_true, aw_plan (id := 5) plV16_96_5, plV16_96_5, h4]
    have := ho.fz T.s70 (by decide)
    unfold Vv
    rw [cutV_len]
    exact this
end Go.Abs
