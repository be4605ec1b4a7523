/- Joined: N15, N19, N21, N22. -/
import Derived.Test.YtboekagofficpaaNd
import Derived.Test.YtboekagofficpaaNc
import Derived.Test.YtboekagofficpaaA29
import Derived.Test.YtboekagofficpaaL4
import Derived.Test.YtboekagofficpaaN20
/- The product of two numbers. -/
set_option linter.unusedVariables false
set_option linter.unusedSimpArgs false
namespace Go.Abs
open Go Go.Proofs
set_option maxRecDepth 100000
set_option maxHeartbeats 4000000
set_option linter.unusedSimpArgs false


def pl54_1 : Plan := ⟨[0, 2], [(1, [2], []), (3, [], [4, 5])]⟩
def pl54_16 : Plan := ⟨[0, 2, 5], [(1, [2], []), (3, [], [4]), (6, [], []), (7, [], [])]⟩
theorem c54 {H : Heap} {v w : Value} {y z : Int} {K L : Nat} (h : IZ H v y K) (h' : IZ H w z L) (hK : K ≤ 2 ^ 40) (hL : L ≤ 2 ^ 40) : ACalls Try.prog 28 [v, w] H fun r H' => IN H' r (y * z) ∧ Hle H H' := by
  have hk1 := h.ln
  have hk2 := h'.ln
  unfold ln at hk1 hk2
  obtain ⟨ng, l, ⟨sl, rfl, _, _⟩, _, _⟩ := id h
  obtain ⟨mg, m, ⟨sm, rfl, _, _⟩, _, _⟩ := id h'
  refine ACalls.of_code T.hm (n := 76) Try.func28 rfl rfl rfl rfl ?_; simp only [List.replicate_succ, List.replicate_zero, List.cons_append, List.nil_append]
  simp (maxSteps := 1000000) (disch := first | exact sd | fail) only [go_sem, Nat.reduceAdd, Nat.reduceSub, Nat.reduceLeDiff, ↓reduceIte, decide_eq_true_eq, if_true, if_false, Bool.false_eq_true, Int.lt_irrefl, implies_true, true_and, and_true, eq_self, and_self, beq_self_eq_true, aw_plan (id := 1) pl54_1, pl54_1, aw_plan (id := 16) pl54_16, pl54_16, aw_plan (id := 1) ⟨[0, 2], [(1, [2], []), (3, [], [4, 5])]⟩]
  refine (z142 (h.mono Hle.auto) (by omega)).mono ?_
  rintro x1 H1 ⟨hx, h1⟩
  have n1 := h1.next
  try simp only [next_push, next_set, next_kill, wr_next] at n1
  have q1 : Hle H H1 := Hle.trans Hle.auto h1
  simp (maxSteps := 1000000) (disch := first | exact sd | fail) only [go_sem, Nat.reduceAdd, Nat.reduceSub, Nat.reduceLeDiff, ↓reduceIte, decide_eq_true_eq, if_true, if_false, Bool.false_eq_true, Int.lt_irrefl, implies_true, true_and, and_true, eq_self, and_self, beq_self_eq_true, aw_plan (id := 1) pl54_1, pl54_1, aw_plan (id := 16) pl54_16, pl54_16, h1.get]
  refine (z142 (h'.mono Hle.auto) (by omega)).mono ?_
  rintro x2 H2 ⟨hy, h2⟩
  have n2 := h2.next
  try simp only [next_push, next_set, next_kill, wr_next] at n2
  have q2 : Hle H H2 := Hle.trans Hle.auto h2
  have hx2 := hx.mono h2
  have lX := lim_limbs y.natAbs
  have lY := lim_limbs z.natAbs
  have vX := val_limbs y.natAbs
  have vY := val_limbs z.natAbs
  generalize limbs y.natAbs = X at *
  generalize limbs z.natAbs = Y at *
  simp (maxSteps := 1000000) (disch := first | exact sd | fail) only [go_sem, Nat.reduceAdd, Nat.reduceSub, Nat.reduceLeDiff, ↓reduceIte, decide_eq_true_eq, if_true, if_false, Bool.false_eq_true, Int.lt_irrefl, implies_true, true_and, and_true, eq_self, and_self, beq_self_eq_true, aw_plan (id := 1) pl54_1, pl54_1, aw_plan (id := 16) pl54_16, pl54_16, h1.get, h2.get, hx2.len T.i22, hx2.addr Try.underlying45 T.s50 T.z50, hx2.loadh T.r50,  hy.len T.i22,  hy.addr Try.underlying45 T.s50 T.z50,  hy.loadh T.r50, show ((X.length : Int) + Y.length).toNat = X.length + Y.length by omega, aMk_int]
  have hO := zeros_own (H := H2) (n := X.length + Y.length) (by omega)
  generalize hso : Value.slice (some ⟨H2.next, 0, none⟩) (X.length + Y.length) (X.length + Y.length) = so at hO ⊢
  refine aw_loopJ (σ := Nat × List Int) (fun s J => [J 0, J 1, .pointer (some ⟨H.next, 0, none⟩), .pointer (some ⟨H.next + 1, 0, none⟩), .pointer (some ⟨H.next + 1 + 1, 0, none⟩), x1, x2, so, J 8, J 9, J 10, J 11, J 12, J 13, J 14, J 15, J 16, J 17, J 18, J 19, J 20, J 21, J 22, x1, .int .i64 X.length, .int .i64 s.1, J 26, J 27, J 28, J 29, J 30, J 31, J 32, J 33, J 34, J 35, J 36, J 37, J 38, J 39, J 40, J 41, J 42, J 43, J 44, J 45, J 46, J 47, J 48, J 49, J 50, J 51, J 52, J 53, J 54, J 55, J 56, J 57, J 58, J 59, J 60, J 61, J 62, J 63, J 64, J 65, J 66, J 67, J 68, J 69, J 70, J 71, J 72, J 73, J 74, J 75, J 76, J 77]) (fun n s H3 => n = X.length - s.1 ∧ s.1 ≤ X.length ∧ Hle H2 H3 ∧ UO Try.prog H2 H3 so s.2 ∧ MulInv X Y s.2 s.1) X.length (0, List.replicate (X.length + Y.length) 0) rfl ⟨rfl, Nat.zero_le _, Hle.push0 _, hO, MulInv.init⟩ ?_
  rintro n ⟨i, o⟩ J H3 ⟨rfl, hi, hle3, ho, hm⟩
  simp only at hi ho hm
  have hx3 := hx2.mono hle3
  have hy3 := hy.mono hle3
  have hml := hm.len
  by_cases h4 : (i : Int) < X.length
  rotate_left
  · have hix : i = X.length := by omega
    subst hix
    simp (maxSteps := 1000000) (disch := first | exact sd | fail) only [go_sem, Nat.reduceAdd, Nat.reduceSub, Nat.reduceLeDiff, ↓reduceIte, decide_eq_true_eq, if_true, if_false, Bool.false_eq_true, Int.lt_irrefl, implies_true, true_and, and_true, eq_self, and_self, beq_self_eq_true, aw_plan (id := 1) pl54_1, pl54_1, aw_plan (id := 16) pl54_16, pl54_16, h4, hx3.len T.i22, hx3.addr Try.underlying45 T.s50 T.z50, hx3.loadh T.r50]
    have hvo := hm.done lX lY
    have n3 := hle3.next
    try simp only [next_push, next_set, next_kill, wr_next] at n3
    simp (maxSteps := 1000000) (disch := first | exact sd | fail) only [go_sem, Nat.reduceAdd, Nat.reduceSub, Nat.reduceLeDiff, ↓reduceIte, decide_eq_true_eq, if_true, if_false, Bool.false_eq_true, Int.lt_irrefl, implies_true, true_and, and_true, eq_self, and_self, beq_self_eq_true, aw_plan (id := 1) pl54_1, pl54_1, aw_plan (id := 16) pl54_16, pl54_16, h1.get, h2.get, hle3.get, aw_plan (id := 16) ⟨[0, 2, 5], [(1, [2], []), (3, [], [4]), (6, [], []), (7, [], [])]⟩]
    refine (z145 (h.mono Hle.auto) (by omega)).mono ?_
    rintro _ H4 ⟨rfl, h4⟩
    have n4 := h4.next
    try simp only [next_push, next_set, next_kill, wr_next] at n4
    have q4 : Hle H H4 := Hle.trans Hle.auto h4
    simp (maxSteps := 1000000) (disch := first | exact sd | fail) only [go_sem, Nat.reduceAdd, Nat.reduceSub, Nat.reduceLeDiff, ↓reduceIte, decide_eq_true_eq, if_true, if_false, Bool.false_eq_true, Int.lt_irrefl, implies_true, true_and, and_true, eq_self, and_self, beq_self_eq_true, aw_plan (id := 1) pl54_1, pl54_1, aw_plan (id := 16) pl54_16, pl54_16, h1.get, h2.get, h4.get, hle3.get]
    refine (z145 (h'.mono Hle.auto) (by omega)).mono ?_
    rintro _ H5 ⟨rfl, h5⟩
    have n5 := h5.next
    try simp only [next_push, next_set, next_kill, wr_next] at n5
    have q5 : Hle H H5 := Hle.trans Hle.auto h5
    simp (maxSteps := 1000000) (disch := first | exact sd | fail) only [go_sem, Nat.reduceAdd, Nat.reduceSub, Nat.reduceLeDiff, ↓reduceIte, decide_eq_true_eq, if_true, if_false, Bool.false_eq_true, Int.lt_irrefl, implies_true, true_and, and_true, eq_self, and_self, beq_self_eq_true, aw_plan (id := 1) pl54_1, pl54_1, aw_plan (id := 16) pl54_16, pl54_16, h1.get, h2.get, h4.get, h5.get, hle3.get]
    have e : (if (decide (y < 0) != decide (z < 0)) = true then -(val o) else val o) = y * z := by
      rw [hvo, vX, vY]
      exact mul_sign y z
    refine (z144 (ho.u.mono Hle.auto) hm.lim (by omega)).mono ?_
    rintro r H6 ⟨hr, h6⟩
    have n6 := h6.next
    try simp only [next_push, next_set, next_kill, wr_next] at n6
    have q6 : Hle H H6 := Hle.trans Hle.auto h6
    rw [e] at hr
    obtain ⟨sr, rfl, hy7, _⟩ := hr.form
    have hg7 : H6.get (H.next + 1 + 1) = some (.row true 47 [.bool false, .slice none 0 0]) := by simp (maxSteps := 1000000) (disch := first | exact sd | fail) only [go_sem, Nat.reduceAdd, Nat.reduceSub, Nat.reduceLeDiff, ↓reduceIte, decide_eq_true_eq, if_true, if_false, Bool.false_eq_true, Int.lt_irrefl, implies_true, true_and, and_true, eq_self, and_self, beq_self_eq_true, aw_plan (id := 1) pl54_1, pl54_1, aw_plan (id := 16) pl54_16, pl54_16, h1.get, h2.get, h4.get, h5.get, h6.get, hle3.get]
    simp (maxSteps := 1000000) (disch := first | exact sd | fail) only [go_sem, Nat.reduceAdd, Nat.reduceSub, Nat.reduceLeDiff, ↓reduceIte, decide_eq_true_eq, if_true, if_false, Bool.false_eq_true, Int.lt_irrefl, implies_true, true_and, and_true, eq_self, and_self, beq_self_eq_true, aw_plan (id := 1) pl54_1, pl54_1, aw_plan (id := 16) pl54_16, pl54_16, hg7]
    exact ⟨hr.setbox hg7 _, Hle.auto⟩
  have hui := lX.getD i
  simp (maxSteps := 1000000) (disch := first | exact sd | fail) only [go_sem, Nat.reduceAdd, Nat.reduceSub, Nat.reduceLeDiff, ↓reduceIte, decide_eq_true_eq, if_true, if_false, Bool.false_eq_true, Int.lt_irrefl, implies_true, true_and, and_true, eq_self, and_self, beq_self_eq_true, aw_plan (id := 1) pl54_1, pl54_1, aw_plan (id := 16) pl54_16, pl54_16, h4, hx3.len T.i22, hx3.addr Try.underlying45 T.s50 T.z50, hx3.loadh T.r50,  hy3.len T.i22,  hy3.addr Try.underlying45 T.s50 T.z50,  hy3.loadh T.r50, Int.toNat_natCast]
  refine aw_loopJ (σ := Nat × Int × List Int) (fun s J => [J 0, J 1, .pointer (some ⟨H.next, 0, none⟩), .pointer (some ⟨H.next + 1, 0, none⟩), .pointer (some ⟨H.next + 1 + 1, 0, none⟩), x1, x2, so, .int .i64 i, .int .u32 (X.getD i 0), .int .u64 s.2.1, J 11, J 12, J 13, J 14, J 15, J 16, J 17, J 18, J 19, J 20, J 21, J 22, x1, .int .i64 X.length, .int .i64 i, J 26, J 27, J 28, J 29, x2, .int .i64 Y.length, .int .i64 s.1, J 33, J 34, J 35, J 36, J 37, J 38, J 39, J 40, J 41, J 42, J 43, J 44, J 45, J 46, J 47, J 48, J 49, J 50, J 51, J 52, J 53, J 54, J 55, J 56, J 57, J 58, J 59, J 60, J 61, J 62, J 63, J 64, J 65, J 66, J 67, J 68, J 69, J 70, J 71, J 72, J 73, J 74, J 75, J 76, J 77]) (fun n s H4 => n = Y.length - s.1 ∧ s.1 ≤ Y.length ∧ Hle H2 H4 ∧ UO Try.prog H2 H4 so s.2.2 ∧ RowInv (X.getD i 0) Y o s.2.2 i s.1 s.2.1) Y.length (0, 0, o) rfl ⟨rfl, Nat.zero_le _, hle3, ho, RowInv.init hm.lim⟩ ?_
  rintro n2 ⟨k, c, o2⟩ J2 H4 ⟨rfl, hk, hle4, ho2, hr⟩
  simp only at hk ho2 hr
  have hx4 := hx2.mono hle4
  have hy4 := hy.mono hle4
  have hrl := hr.len
  have hrc := hr.cb
  by_cases h5 : (k : Int) < Y.length
  · have hvk := lY.getD k
    have hw := hr.lim.getD (i + k)
    have hmb := mul_bound hui hvk
    have hst := rowL_step hui hvk hw hrc
    have hstep := hr.step hui lY (by omega) (by omega)
    have w1 := wrap_u64' hmb.1 (by omega)
    have w2 := wrap_u64' (z := X.getD i 0 * Y.getD k 0 + o2.getD (i + k) 0) (by omega) (by omega)
    have w3 := wrap_u64' hst.1 hst.2.1
    have w4 := wrap_u64' (z := X.getD i 0 * Y.getD k 0 + o2.getD (i + k) 0 + c) (by omega) (by omega)
    have w5 : X.getD i 0 * Y.getD k 0 + o2.getD (i + k) 0 + c = c + (X.getD i 0 * Y.getD k 0 + o2.getD (i + k) 0) := by omega
    rw [w5] at w4
    obtain ⟨s1, s2, s3⟩ := ho2.store (o := i + k) (x := (c + (X.getD i 0 * Y.getD k 0 + o2.getD (i + k) 0)) % 4294967296) hle4 (by omega)
    have hou := ho2.u
    have hia : ((i : Int) + (k : Int)).toNat = i + k := by omega
    simp (maxSteps := 1000000) (disch := first | exact sd | fail) only [go_sem, Nat.reduceAdd, Nat.reduceSub, Nat.reduceLeDiff, ↓reduceIte, decide_eq_true_eq, if_true, if_false, Bool.false_eq_true, Int.lt_irrefl, implies_true, true_and, and_true, eq_self, and_self, beq_self_eq_true, aw_plan (id := 1) pl54_1, pl54_1, aw_plan (id := 16) pl54_16, pl54_16, h4, h5, hx4.len T.i22, hx4.addr Try.underlying45 T.s50 T.z50, hx4.loadh T.r50,  hy4.len T.i22,  hy4.addr Try.underlying45 T.s50 T.z50,  hy4.loadh T.r50,  hou.len T.i22,  hou.addr Try.underlying45 T.s50 T.z50,  hou.loadh T.r50, Int.toNat_natCast, hia, wrap_u64' hui.1 (Int.lt_trans hui.2 (by decide)), wrap_u64' hvk.1 (Int.lt_trans hvk.2 (by decide)), wrap_u64' hw.1 (Int.lt_trans hw.2 (by decide)), w1, w2, w3, w4, w5, wrap_u32, s1]
    refine e151.mono ?_
    rintro _ _ ⟨rfl, rfl⟩
    simp (maxSteps := 1000000) (disch := first | exact sd | fail) only [go_sem, Nat.reduceAdd, Nat.reduceSub, Nat.reduceLeDiff, ↓reduceIte, decide_eq_true_eq, if_true, if_false, Bool.false_eq_true, Int.lt_irrefl, implies_true, true_and, and_true, eq_self, and_self, beq_self_eq_true, aw_plan (id := 1) pl54_1, pl54_1, aw_plan (id := 16) pl54_16, pl54_16, hia, hou.len T.i22, hou.addr Try.underlying45 T.s50 T.z50, hou.loadh T.r50, s1]
    exact IJ_intro (k := Y.length - (k + 1)) (by omega) (k + 1, _, _) rfl ⟨rfl, (by first | omega | (dsimp only; omega)), s3, s2, hstep⟩
  · have hkx : k = Y.length := by omega
    subst hkx
    have hcc : c % 4294967296 = c := by omega
    obtain ⟨s1, s2, s3⟩ := ho2.store (o := i + Y.length) (x := c) hle4 (by omega)
    have hd := hr.done (by omega)
    rw [hd] at s2
    have hou := ho2.u
    have hia : ((i : Int) + (Y.length : Int)).toNat = i + Y.length := by omega
    simp (maxSteps := 1000000) (disch := first | exact sd | fail) only [go_sem, Nat.reduceAdd, Nat.reduceSub, Nat.reduceLeDiff, ↓reduceIte, decide_eq_true_eq, if_true, if_false, Bool.false_eq_true, Int.lt_irrefl, implies_true, true_and, and_true, eq_self, and_self, beq_self_eq_true, aw_plan (id := 1) pl54_1, pl54_1, aw_plan (id := 16) pl54_16, pl54_16, h5, hy4.len T.i22, hy4.addr Try.underlying45 T.s50 T.z50, hy4.loadh T.r50,  hou.len T.i22,  hou.addr Try.underlying45 T.s50 T.z50,  hou.loadh T.r50, hia, hcc, wrap_u32, s1]
    refine e151.mono ?_
    rintro _ _ ⟨rfl, rfl⟩
    simp (maxSteps := 1000000) (disch := first | exact sd | fail) only [go_sem, Nat.reduceAdd, Nat.reduceSub, Nat.reduceLeDiff, ↓reduceIte, decide_eq_true_eq, if_true, if_false, Bool.false_eq_true, Int.lt_irrefl, implies_true, true_and, and_true, eq_self, and_self, beq_self_eq_true, aw_plan (id := 1) pl54_1, pl54_1, aw_plan (id := 16) pl54_16, pl54_16, hia, hcc, hou.len T.i22, hou.addr Try.underlying45 T.s50 T.z50, hou.loadh T.r50, s1]
    exact IJ_intro (k := X.length - (i + 1)) (by omega) (i + 1, _) rfl ⟨rfl, (by first | omega | (dsimp only; omega)), s3, s2, hm.step lX lY (by omega)⟩
end Go.Abs

/- The contracts as laws take them: with how many limbs there are. -/
set_option linter.unusedVariables false
set_option linter.unusedSimpArgs false
namespace Go.Abs
open Go Go.Proofs
set_option maxRecDepth 100000
set_option maxHeartbeats 4000000
set_option linter.unusedSimpArgs false

theorem w54 {H : Heap} {v w : Value} {y z : Int} {K L : Nat} (h : IZ H v y K) (h' : IZ H w z L) (hK : K ≤ 2 ^ 40) (hL : L ≤ 2 ^ 40) : ACalls Try.prog 28 [v, w] H fun r H' => IN H' r (y * z) ∧ ln (y * z) ≤ K + L ∧ Hle H H' :=
  (c54 h h' hK hL).mono fun r H' ⟨h1, h2⟩ => ⟨h1, by have := ln_mul y z; have := h.ln; have := h'.ln; omega, h2⟩
theorem w44 {H : Heap} {v w : Value} {y z : Int} (h : IN H v y) (h' : IN H w z) (hb : ln y ≤ 2 ^ 40) (e : y = z) : ACalls Try.prog 13 [v, w] H fun r H' => r = .bool true ∧ True ∧ Hle H H' :=
  (z44 h h' (by omega)).mono fun r H' ⟨h1, h2⟩ => ⟨by rw [h1]; simp [e], trivial, h2⟩
/-- Nought, as it is typed. -/
theorem IZ.nought {H : Heap} : IZ H (.agg ⟨[.bool false, .slice none 0 0]⟩) 0 0 := ⟨false, [], ⟨_, rfl, .nil, Lim.nil⟩, by simp [den, mayB, val], Nat.le_refl _⟩
theorem IA.iz {H : Heap} {v : Value} {ng : Bool} {l : List Int} {K : Nat} (h : IA Try.prog H v ng l) (hk : l.length ≤ K) : IZ H v (den ng l) K := ⟨ng, l, h, rfl, hk⟩
theorem L.app0 {α : Type} {l : List α} : List.append [] l = l := _root_.id rfl
theorem L.app1 {α : Type} {a : α} {l m : List α} : List.append (a :: l) m = a :: List.append l m := _root_.id rfl
attribute [go_sem] L.app0 L.app1

/-- Three numbers in a slice. -/
theorem IAs.three {H : Heap} {s1 s2 s3 : Value} {n1 n2 n3 : Bool} {l1 l2 l3 : List Int} (h1 : U Try.prog H s1 l1) (k1 : Lim l1) (h2 : U Try.prog H s2 l2) (k2 : Lim l2) (h3 : U Try.prog H s3 l3) (k3 : Lim l3) :
    IAs (H.push (.row true 47 [.bool n1, s1, .bool n2, s2, .bool n3, s3])) (.slice (some ⟨H.next, 0, none⟩) 3 3) [(n1, l1), (n2, l2), (n3, l3)] := by
  refine ⟨[.bool n1, s1, .bool n2, s2, .bool n3, s3], ?_, ?_⟩
  · exact Sl.row (P := Try.prog) (es := 2) (n := 3) (off := 0) (cs := [.bool n1, s1, .bool n2, s2, .bool n3, s3]) (get_push_self _ _) (by simp) (.inr T.s24) (.inr ⟨Nat.le_refl _, by unfold unk; omega⟩) (by simp)
  · intro i ng' l' h
    match i, h with
    | 0, h =>
      simp only [List.getElem?_cons_zero, Option.some.injEq, Prod.mk.injEq] at h
      obtain ⟨rfl, rfl⟩ := h
      exact ⟨s1, rfl, rfl, h1.mono (Hle.push0 _), k1⟩
    | 1, h =>
      simp only [List.getElem?_cons_zero, List.getElem?_cons_succ, Option.some.injEq, Prod.mk.injEq] at h
      obtain ⟨rfl, rfl⟩ := h
      exact ⟨s2, rfl, rfl, h2.mono (Hle.push0 _), k2⟩
    | 2, h =>
      simp only [List.getElem?_cons_zero, List.getElem?_cons_succ, Option.some.injEq, Prod.mk.injEq] at h
      obtain ⟨rfl, rfl⟩ := h
      exact ⟨s3, rfl, rfl, h3.mono (Hle.push0 _), k3⟩
    | i + 3, h => simp at h
theorem IAs.two {H : Heap} {s1 s2 : Value} {n1 n2 : Bool} {l1 l2 : List Int} (h1 : U Try.prog H s1 l1) (k1 : Lim l1) (h2 : U Try.prog H s2 l2) (k2 : Lim l2) :
    IAs (H.push (.row true 47 [.bool n1, s1, .bool n2, s2])) (.slice (some ⟨H.next, 0, none⟩) 2 2) [(n1, l1), (n2, l2)] := by
  refine ⟨[.bool n1, s1, .bool n2, s2], ?_, ?_⟩
  · exact Sl.row (P := Try.prog) (es := 2) (n := 2) (off := 0) (cs := [.bool n1, s1, .bool n2, s2]) (get_push_self _ _) (by simp) (.inr T.s24) (.inr ⟨Nat.le_refl _, by unfold unk; omega⟩) (by simp)
  · intro i ng' l' h
    match i, h with
    | 0, h =>
      simp only [List.getElem?_cons_zero, Option.some.injEq, Prod.mk.injEq] at h
      obtain ⟨rfl, rfl⟩ := h
      exact ⟨s1, rfl, rfl, h1.mono (Hle.push0 _), k1⟩
    | 1, h =>
      simp only [List.getElem?_cons_zero, List.getElem?_cons_succ, Option.some.injEq, Prod.mk.injEq] at h
      obtain ⟨rfl, rfl⟩ := h
      exact ⟨s2, rfl, rfl, h2.mono (Hle.push0 _), k2⟩
    | i + 2, h => simp at h
end Go.Abs

/- The document's sums, differences, products, opposites, which is greater. -/
set_option linter.unusedVariables false
set_option linter.unusedSimpArgs false
namespace Go.Abs
open Go Go.Proofs
set_option maxRecDepth 100000
set_option maxHeartbeats 40000000
set_option linter.unusedSimpArgs false

def pl63_4 : Plan := ⟨[0, 1, 2, 3, 4, 5], [(6, [1], []), (7, [], []), (8, [], [])]⟩
def pl63_6 : Plan := ⟨[0, 1, 2, 3, 4, 5], [(6, [1], []), (7, [], []), (8, [], [])]⟩
def pl63_7 : Plan := ⟨[0, 1, 2, 3, 4, 5], [(6, [1], []), (7, [], []), (8, [], [])]⟩
def pl64_1 : Plan := ⟨[0, 1], [(2, [0], []), (3, [], []), (4, [], [])]⟩
def pl65_3 : Plan := ⟨[0, 1, 2, 3, 4, 5, 6, 7, 8], [(9, [3, 1], []), (10, [], []), (11, [], [])]⟩
theorem U.setbox {H : Heap} {sl : Value} {l : List Int} (h : U Try.prog H sl l) {b : Nat} {cs : List Value} (hg : H.get b = some (.row true 47 cs)) (o : AObj) : U Try.prog (H.set b o) sl l := Sl.setbox h hg (by rw [T.s24]; decide) o
theorem neg_sign (z : Int) : (if (!decide (z < 0)) = true then -(val (limbs z.natAbs)) else val (limbs z.natAbs)) = -z := by
  rw [val_limbs]
  by_cases h0 : z < 0
  · simp [h0]; omega
  · simp [h0]; omega

theorem z67 {H : Heap} {v : Value} {z : Int} {K : Nat} (h : IZ H v z K) (hK : K ≤ 2 ^ 40) : ACalls Try.prog 52 [v] H fun r H' => IN H' r (-z) ∧ Hle H H' := by
  have hk := h.ln
  unfold ln at hk
  obtain ⟨ng, sl, rfl, hy0⟩ := h.form
  refine ACalls.of_code T.hm (n := 10) Try.func52 rfl rfl rfl rfl ?_; simp only [List.replicate_succ, List.replicate_zero, List.cons_append, List.nil_append]
  simp (maxSteps := 1000000) (disch := first | exact sd | fail) only [go_sem, Nat.reduceAdd, Nat.reduceSub, Nat.reduceLeDiff, ↓reduceIte, decide_eq_true_eq, if_true, if_false, Bool.false_eq_true, Int.lt_irrefl, implies_true, true_and, and_true, eq_self, and_self, beq_self_eq_true]
  refine (z148 (h.mono Hle.auto) (by omega)).mono ?_
  rintro r1 H1 ⟨hr1, h1⟩
  have n1 := h1.next
  try simp only [next_push, next_set, next_kill, wr_next] at n1
  have q1 : Hle H H1 := Hle.trans Hle.auto h1
  obtain ⟨s1, rfl, y1, u1⟩ := hr1.form
  have g1 : H1.get H.next = some (.row true 47 [.bool ng, sl]) := by simp (maxSteps := 1000000) (disch := first | exact sd | fail) only [go_sem, Nat.reduceAdd, Nat.reduceSub, Nat.reduceLeDiff, ↓reduceIte, decide_eq_true_eq, if_true, if_false, Bool.false_eq_true, Int.lt_irrefl, implies_true, true_and, and_true, eq_self, and_self, beq_self_eq_true, h1.get]
  have u1a := u1.setbox g1 (.row true 47 [.bool (decide (z < 0)), s1])
  simp (maxSteps := 1000000) (disch := first | exact sd | fail) only [go_sem, Nat.reduceAdd, Nat.reduceSub, Nat.reduceLeDiff, ↓reduceIte, decide_eq_true_eq, if_true, if_false, Bool.false_eq_true, Int.lt_irrefl, implies_true, true_and, and_true, eq_self, and_self, beq_self_eq_true, g1]
  refine (z150 u1a (lim_limbs _) (by omega)).mono ?_
  rintro r H2 ⟨hr, h2⟩
  have n2 := h2.next
  try simp only [next_push, next_set, next_kill, wr_next] at n2
  have q2 : Hle H H2 := Hle.trans Hle.auto h2
  rw [neg_sign] at hr
  obtain ⟨sr, rfl, hy2, _⟩ := hr.form
  have g2 : H2.get (H.next + 1) = some (.row true 47 [.bool false, .slice none 0 0]) := by simp (maxSteps := 1000000) (disch := first | exact sd | fail) only [go_sem, Nat.reduceAdd, Nat.reduceSub, Nat.reduceLeDiff, ↓reduceIte, decide_eq_true_eq, if_true, if_false, Bool.false_eq_true, Int.lt_irrefl, implies_true, true_and, and_true, eq_self, and_self, beq_self_eq_true, h1.get, h2.get]
  simp (maxSteps := 1000000) (disch := first | exact sd | fail) only [go_sem, Nat.reduceAdd, Nat.reduceSub, Nat.reduceLeDiff, ↓reduceIte, decide_eq_true_eq, if_true, if_false, Bool.false_eq_true, Int.lt_irrefl, implies_true, true_and, and_true, eq_self, and_self, beq_self_eq_true, g2]
  exact ⟨hr.setbox g2 _, Hle.auto⟩


theorem z63 {H : Heap} {v w : Value} {y z : Int} {K L : Nat} (h : IZ H v y K) (h' : IZ H w z L) (hK : K ≤ 2 ^ 40) (hL : L ≤ 2 ^ 40) : ACalls Try.prog 51 [v, w] H fun r H' => IN H' r (y + z) ∧ Hle H H' := by
  obtain ⟨ng, sl, rfl, hy0⟩ := h.form
  obtain ⟨mg, sm, rfl, hy0'⟩ := h'.form
  refine ACalls.of_code T.hm (n := 42) Try.func51 rfl rfl rfl rfl ?_; simp only [List.replicate_succ, List.replicate_zero, List.cons_append, List.nil_append]
  have hk := h.ln
  have hk' := h'.ln
  have hk2 := hk
  have hk2' := hk'
  unfold ln at hk2 hk2'
  have vX := val_limbs y.natAbs
  have vY := val_limbs z.natAbs
  simp (maxSteps := 1000000) (disch := first | exact sd | fail) only [go_sem, Nat.reduceAdd, Nat.reduceSub, Nat.reduceLeDiff, ↓reduceIte, decide_eq_true_eq, if_true, if_false, Bool.false_eq_true, Int.lt_irrefl, implies_true, true_and, and_true, eq_self, and_self, beq_self_eq_true, aw_plan (id := 4) pl63_4, pl63_4, aw_plan (id := 6) pl63_6, pl63_6, aw_plan (id := 7) pl63_7, pl63_7]
  refine (z148 (h.mono Hle.auto) (by omega)).mono ?_
  rintro r1 H1 ⟨hr1, h1⟩
  have n1 := h1.next
  try simp only [next_push, next_set, next_kill, wr_next] at n1
  have q1 : Hle H H1 := Hle.trans Hle.auto h1
  obtain ⟨s1, rfl, y1, u1⟩ := hr1.form
  have g1 : H1.get H.next = some (.row true 47 [.bool ng, sl]) := by simp (maxSteps := 1000000) (disch := first | exact sd | fail) only [go_sem, Nat.reduceAdd, Nat.reduceSub, Nat.reduceLeDiff, ↓reduceIte, decide_eq_true_eq, if_true, if_false, Bool.false_eq_true, Int.lt_irrefl, implies_true, true_and, and_true, eq_self, and_self, beq_self_eq_true, aw_plan (id := 4) pl63_4, pl63_4, aw_plan (id := 6) pl63_6, pl63_6, aw_plan (id := 7) pl63_7, pl63_7, h1.get]
  have u1a := u1.setbox g1 (.row true 47 [.bool (decide (y < 0)), s1])
  simp (maxSteps := 1000000) (disch := first | exact sd | fail) only [go_sem, Nat.reduceAdd, Nat.reduceSub, Nat.reduceLeDiff, ↓reduceIte, decide_eq_true_eq, if_true, if_false, Bool.false_eq_true, Int.lt_irrefl, implies_true, true_and, and_true, eq_self, and_self, beq_self_eq_true, aw_plan (id := 4) pl63_4, pl63_4, aw_plan (id := 6) pl63_6, pl63_6, aw_plan (id := 7) pl63_7, pl63_7, g1, h1.get]
  refine (z148 (h'.mono Hle.auto) (by omega)).mono ?_
  rintro r2 H2 ⟨hr2, h2⟩
  have n2 := h2.next
  try simp only [next_push, next_set, next_kill, wr_next] at n2
  have q2 : Hle H H2 := Hle.trans Hle.auto h2
  obtain ⟨s2, rfl, y2, u2⟩ := hr2.form
  have g2 : H2.get (H.next + 1) = some (.row true 47 [.bool mg, sm]) := by simp (maxSteps := 1000000) (disch := first | exact sd | fail) only [go_sem, Nat.reduceAdd, Nat.reduceSub, Nat.reduceLeDiff, ↓reduceIte, decide_eq_true_eq, if_true, if_false, Bool.false_eq_true, Int.lt_irrefl, implies_true, true_and, and_true, eq_self, and_self, beq_self_eq_true, aw_plan (id := 4) pl63_4, pl63_4, aw_plan (id := 6) pl63_6, pl63_6, aw_plan (id := 7) pl63_7, pl63_7, h1.get, h2.get]
  have u1b := U.setbox (U.mono u1a h2) g2 (.row true 47 [.bool (decide (z < 0)), s2])
  have u2b := u2.setbox g2 (.row true 47 [.bool (decide (z < 0)), s2])
  by_cases hs : decide (y < 0) = decide (z < 0)
  · simp (maxSteps := 1000000) (disch := first | exact sd | fail) only [go_sem, Nat.reduceAdd, Nat.reduceSub, Nat.reduceLeDiff, ↓reduceIte, decide_eq_true_eq, if_true, if_false, Bool.false_eq_true, Int.lt_irrefl, implies_true, true_and, and_true, eq_self, and_self, beq_self_eq_true, aw_plan (id := 4) pl63_4, pl63_4, aw_plan (id := 6) pl63_6, pl63_6, aw_plan (id := 7) pl63_7, pl63_7, g2, h1.get, h2.get, hs, aw_plan (id := 4) ⟨[0, 1, 2, 3, 4, 5], [(6, [1], []), (7, [], []), (8, [], [])]⟩]
    refine (c158 u1b u2b (lim_limbs _) (lim_limbs _) (by omega) (by omega)).mono ?_
    rintro s3 H3 ⟨l3, u3, m3, v3, e3, t3, h3⟩
    have n3 := h3.next
    try simp only [next_push, next_set, next_kill, wr_next] at n3
    have q3 : Hle H H3 := Hle.trans Hle.auto h3
    simp (maxSteps := 1000000) (disch := first | exact sd | fail) only [go_sem, Nat.reduceAdd, Nat.reduceSub, Nat.reduceLeDiff, ↓reduceIte, decide_eq_true_eq, if_true, if_false, Bool.false_eq_true, Int.lt_irrefl, implies_true, true_and, and_true, eq_self, and_self, beq_self_eq_true, aw_plan (id := 4) pl63_4, pl63_4, aw_plan (id := 6) pl63_6, pl63_6, aw_plan (id := 7) pl63_7, pl63_7, h1.get, h2.get, h3.get, g2, hs]
    have e : (if decide (z < 0) = true then -(val l3) else val l3) = y + z := by
      rw [v3, vX, vY]
      by_cases b0 : z < 0
      · have : y < 0 := by simpa [b0] using hs
        simp [b0]; omega
      · have : ¬ y < 0 := by simpa [b0] using hs
        simp [b0]; omega
    refine (z150 u3 m3 (by omega)).mono ?_
    rintro r H4 ⟨hr, h4⟩
    have n4 := h4.next
    try simp only [next_push, next_set, next_kill, wr_next] at n4
    have q4 : Hle H H4 := Hle.trans Hle.auto h4
    rw [e] at hr
    obtain ⟨sr, rfl, hy4, _⟩ := hr.form
    have g4 : H4.get (H.next + 1 + 1) = some (.row true 47 [.bool false, .slice none 0 0]) := by simp (maxSteps := 1000000) (disch := first | exact sd | fail) only [go_sem, Nat.reduceAdd, Nat.reduceSub, Nat.reduceLeDiff, ↓reduceIte, decide_eq_true_eq, if_true, if_false, Bool.false_eq_true, Int.lt_irrefl, implies_true, true_and, and_true, eq_self, and_self, beq_self_eq_true, aw_plan (id := 4) pl63_4, pl63_4, aw_plan (id := 6) pl63_6, pl63_6, aw_plan (id := 7) pl63_7, pl63_7, h1.get, h2.get, h3.get, h4.get]
    simp (maxSteps := 1000000) (disch := first | exact sd | fail) only [go_sem, Nat.reduceAdd, Nat.reduceSub, Nat.reduceLeDiff, ↓reduceIte, decide_eq_true_eq, if_true, if_false, Bool.false_eq_true, Int.lt_irrefl, implies_true, true_and, and_true, eq_self, and_self, beq_self_eq_true, aw_plan (id := 4) pl63_4, pl63_4, aw_plan (id := 6) pl63_6, pl63_6, aw_plan (id := 7) pl63_7, pl63_7, g4]
    exact ⟨hr.setbox g4 _, Hle.auto⟩
  · have hs2 : (decide (y < 0) == decide (z < 0)) = false := by simpa using hs
    simp (maxSteps := 1000000) (disch := first | exact sd | fail) only [go_sem, Nat.reduceAdd, Nat.reduceSub, Nat.reduceLeDiff, ↓reduceIte, decide_eq_true_eq, if_true, if_false, Bool.false_eq_true, Int.lt_irrefl, implies_true, true_and, and_true, eq_self, and_self, beq_self_eq_true, aw_plan (id := 4) pl63_4, pl63_4, aw_plan (id := 6) pl63_6, pl63_6, aw_plan (id := 7) pl63_7, pl63_7, g2, h1.get, h2.get, hs2]
    refine (c159 u1b u2b (lim_limbs _) (lim_limbs _) (top_limbs _) (top_limbs _) (by omega) (by omega)).mono ?_
    rintro _ _ ⟨rfl, rfl⟩
    rw [vX, vY]
    by_cases b5 : (0 : Int) ≤ sg ((y.natAbs : Int) - z.natAbs)
    · have h5' : (z.natAbs : Int) ≤ y.natAbs := by unfold sg at b5; split at b5 <;> omega
      simp (maxSteps := 1000000) (disch := first | exact sd | fail) only [go_sem, Nat.reduceAdd, Nat.reduceSub, Nat.reduceLeDiff, ↓reduceIte, decide_eq_true_eq, if_true, if_false, Bool.false_eq_true, Int.lt_irrefl, implies_true, true_and, and_true, eq_self, and_self, beq_self_eq_true, aw_plan (id := 4) pl63_4, pl63_4, aw_plan (id := 6) pl63_6, pl63_6, aw_plan (id := 7) pl63_7, pl63_7, g2, h1.get, h2.get, b5, aw_plan (id := 6) ⟨[0, 1, 2, 3, 4, 5], [(6, [1], []), (7, [], []), (8, [], [])]⟩]
      refine (c160 u1b u2b (lim_limbs _) (lim_limbs _) (by omega) (by exact ln_mono (a := z) (b := y) (by omega)) (by omega)).mono ?_
      rintro s3 H3 ⟨l3, u3, m3, v3, e3, t3, h3⟩
      have n3 := h3.next
      try simp only [next_push, next_set, next_kill, wr_next] at n3
      have q3 : Hle H H3 := Hle.trans Hle.auto h3
      simp (maxSteps := 1000000) (disch := first | exact sd | fail) only [go_sem, Nat.reduceAdd, Nat.reduceSub, Nat.reduceLeDiff, ↓reduceIte, decide_eq_true_eq, if_true, if_false, Bool.false_eq_true, Int.lt_irrefl, implies_true, true_and, and_true, eq_self, and_self, beq_self_eq_true, aw_plan (id := 4) pl63_4, pl63_4, aw_plan (id := 6) pl63_6, pl63_6, aw_plan (id := 7) pl63_7, pl63_7, h1.get, h2.get, h3.get, g2]
      have e : (if decide (y < 0) = true then -(val l3) else val l3) = y + z := by
        rw [v3, vX, vY]
        by_cases b0 : y < 0
        · have : ¬ z < 0 := by simpa [b0] using hs
          simp [b0]; omega
        · have : z < 0 := by simpa [b0] using hs
          simp [b0]; omega
      refine (z150 u3 m3 (by omega)).mono ?_
      rintro r H4 ⟨hr, h4⟩
      have n4 := h4.next
      try simp only [next_push, next_set, next_kill, wr_next] at n4
      have q4 : Hle H H4 := Hle.trans Hle.auto h4
      rw [e] at hr
      obtain ⟨sr, rfl, hy4, _⟩ := hr.form
      have g4 : H4.get (H.next + 1 + 1) = some (.row true 47 [.bool false, .slice none 0 0]) := by simp (maxSteps := 1000000) (disch := first | exact sd | fail) only [go_sem, Nat.reduceAdd, Nat.reduceSub, Nat.reduceLeDiff, ↓reduceIte, decide_eq_true_eq, if_true, if_false, Bool.false_eq_true, Int.lt_irrefl, implies_true, true_and, and_true, eq_self, and_self, beq_self_eq_true, aw_plan (id := 4) pl63_4, pl63_4, aw_plan (id := 6) pl63_6, pl63_6, aw_plan (id := 7) pl63_7, pl63_7, h1.get, h2.get, h3.get, h4.get]
      simp (maxSteps := 1000000) (disch := first | exact sd | fail) only [go_sem, Nat.reduceAdd, Nat.reduceSub, Nat.reduceLeDiff, ↓reduceIte, decide_eq_true_eq, if_true, if_false, Bool.false_eq_true, Int.lt_irrefl, implies_true, true_and, and_true, eq_self, and_self, beq_self_eq_true, aw_plan (id := 4) pl63_4, pl63_4, aw_plan (id := 6) pl63_6, pl63_6, aw_plan (id := 7) pl63_7, pl63_7, g4]
      exact ⟨hr.setbox g4 _, Hle.auto⟩
    · have h5' : (y.natAbs : Int) < z.natAbs := by unfold sg at b5; split at b5; omega; split at b5 <;> omega
      simp (maxSteps := 1000000) (disch := first | exact sd | fail) only [go_sem, Nat.reduceAdd, Nat.reduceSub, Nat.reduceLeDiff, ↓reduceIte, decide_eq_true_eq, if_true, if_false, Bool.false_eq_true, Int.lt_irrefl, implies_true, true_and, and_true, eq_self, and_self, beq_self_eq_true, aw_plan (id := 4) pl63_4, pl63_4, aw_plan (id := 6) pl63_6, pl63_6, aw_plan (id := 7) pl63_7, pl63_7, g2, h1.get, h2.get, b5, aw_plan (id := 7) ⟨[0, 1, 2, 3, 4, 5], [(6, [1], []), (7, [], []), (8, [], [])]⟩]
      refine (c160 u2b u1b (lim_limbs _) (lim_limbs _) (by omega) (by exact ln_mono (a := y) (b := z) (by omega)) (by omega)).mono ?_
      rintro s3 H3 ⟨l3, u3, m3, v3, e3, t3, h3⟩
      have n3 := h3.next
      try simp only [next_push, next_set, next_kill, wr_next] at n3
      have q3 : Hle H H3 := Hle.trans Hle.auto h3
      simp (maxSteps := 1000000) (disch := first | exact sd | fail) only [go_sem, Nat.reduceAdd, Nat.reduceSub, Nat.reduceLeDiff, ↓reduceIte, decide_eq_true_eq, if_true, if_false, Bool.false_eq_true, Int.lt_irrefl, implies_true, true_and, and_true, eq_self, and_self, beq_self_eq_true, aw_plan (id := 4) pl63_4, pl63_4, aw_plan (id := 6) pl63_6, pl63_6, aw_plan (id := 7) pl63_7, pl63_7, h1.get, h2.get, h3.get, g2]
      have e : (if decide (z < 0) = true then -(val l3) else val l3) = y + z := by
        rw [v3, vX, vY]
        by_cases b0 : z < 0
        · have : ¬ y < 0 := by intro h1; exact hs (by simp [b0, h1])
          simp [b0]; omega
        · have : y < 0 := by
            refine Classical.byContradiction fun h1 => hs (by simp [b0, h1])
          simp [b0]; omega
      refine (z150 u3 m3 (by omega)).mono ?_
      rintro r H4 ⟨hr, h4⟩
      have n4 := h4.next
      try simp only [next_push, next_set, next_kill, wr_next] at n4
      have q4 : Hle H H4 := Hle.trans Hle.auto h4
      rw [e] at hr
      obtain ⟨sr, rfl, hy4, _⟩ := hr.form
      have g4 : H4.get (H.next + 1 + 1) = some (.row true 47 [.bool false, .slice none 0 0]) := by simp (maxSteps := 1000000) (disch := first | exact sd | fail) only [go_sem, Nat.reduceAdd, Nat.reduceSub, Nat.reduceLeDiff, ↓reduceIte, decide_eq_true_eq, if_true, if_false, Bool.false_eq_true, Int.lt_irrefl, implies_true, true_and, and_true, eq_self, and_self, beq_self_eq_true, aw_plan (id := 4) pl63_4, pl63_4, aw_plan (id := 6) pl63_6, pl63_6, aw_plan (id := 7) pl63_7, pl63_7, h1.get, h2.get, h3.get, h4.get]
      simp (maxSteps := 1000000) (disch := first | exact sd | fail) only [go_sem, Nat.reduceAdd, Nat.reduceSub, Nat.reduceLeDiff, ↓reduceIte, decide_eq_true_eq, if_true, if_false, Bool.false_eq_true, Int.lt_irrefl, implies_true, true_and, and_true, eq_self, and_self, beq_self_eq_true, aw_plan (id := 4) pl63_4, pl63_4, aw_plan (id := 6) pl63_6, pl63_6, aw_plan (id := 7) pl63_7, pl63_7, g4]
      exact ⟨hr.setbox g4 _, Hle.auto⟩

theorem z65 {H : Heap} {v w : Value} {y z : Int} {K L : Nat} (h : IZ H v y K) (h' : IZ H w z L) (hK : K ≤ 2 ^ 40) (hL : L ≤ 2 ^ 40) : ACalls Try.prog 30 [v, w] H fun r H' => IN H' r (y * z) ∧ Hle H H' := by
  obtain ⟨ng, sl, rfl, hy0⟩ := h.form
  obtain ⟨mg, sm, rfl, hy0'⟩ := h'.form
  refine ACalls.of_code T.hm (n := 18) Try.func30 rfl rfl rfl rfl ?_; simp only [List.replicate_succ, List.replicate_zero, List.cons_append, List.nil_append]
  have hk := h.ln
  have hk' := h'.ln
  have hk2 := hk
  have hk2' := hk'
  unfold ln at hk2 hk2'
  have vX := val_limbs y.natAbs
  have vY := val_limbs z.natAbs
  simp (maxSteps := 1000000) (disch := first | exact sd | fail) only [go_sem, Nat.reduceAdd, Nat.reduceSub, Nat.reduceLeDiff, ↓reduceIte, decide_eq_true_eq, if_true, if_false, Bool.false_eq_true, Int.lt_irrefl, implies_true, true_and, and_true, eq_self, and_self, beq_self_eq_true, aw_plan (id := 3) pl65_3, pl65_3]
  refine (z148 (h.mono Hle.auto) (by omega)).mono ?_
  rintro r1 H1 ⟨hr1, h1⟩
  have n1 := h1.next
  try simp only [next_push, next_set, next_kill, wr_next] at n1
  have q1 : Hle H H1 := Hle.trans Hle.auto h1
  obtain ⟨s1, rfl, y1, u1⟩ := hr1.form
  have g1 : H1.get H.next = some (.row true 47 [.bool ng, sl]) := by simp (maxSteps := 1000000) (disch := first | exact sd | fail) only [go_sem, Nat.reduceAdd, Nat.reduceSub, Nat.reduceLeDiff, ↓reduceIte, decide_eq_true_eq, if_true, if_false, Bool.false_eq_true, Int.lt_irrefl, implies_true, true_and, and_true, eq_self, and_self, beq_self_eq_true, aw_plan (id := 3) pl65_3, pl65_3, h1.get]
  have u1a := u1.setbox g1 (.row true 47 [.bool (decide (y < 0)), s1])
  simp (maxSteps := 1000000) (disch := first | exact sd | fail) only [go_sem, Nat.reduceAdd, Nat.reduceSub, Nat.reduceLeDiff, ↓reduceIte, decide_eq_true_eq, if_true, if_false, Bool.false_eq_true, Int.lt_irrefl, implies_true, true_and, and_true, eq_self, and_self, beq_self_eq_true, aw_plan (id := 3) pl65_3, pl65_3, g1, h1.get]
  refine (z148 (h'.mono Hle.auto) (by omega)).mono ?_
  rintro r2 H2 ⟨hr2, h2⟩
  have n2 := h2.next
  try simp only [next_push, next_set, next_kill, wr_next] at n2
  have q2 : Hle H H2 := Hle.trans Hle.auto h2
  obtain ⟨s2, rfl, y2, u2⟩ := hr2.form
  have g2 : H2.get (H.next + 1) = some (.row true 47 [.bool mg, sm]) := by simp (maxSteps := 1000000) (disch := first | exact sd | fail) only [go_sem, Nat.reduceAdd, Nat.reduceSub, Nat.reduceLeDiff, ↓reduceIte, decide_eq_true_eq, if_true, if_false, Bool.false_eq_true, Int.lt_irrefl, implies_true, true_and, and_true, eq_self, and_self, beq_self_eq_true, aw_plan (id := 3) pl65_3, pl65_3, h1.get, h2.get]
  have u1b := U.setbox (U.mono u1a h2) g2 (.row true 47 [.bool (decide (z < 0)), s2])
  have u2b := u2.setbox g2 (.row true 47 [.bool (decide (z < 0)), s2])
  simp (maxSteps := 1000000) (disch := first | exact sd | fail) only [go_sem, Nat.reduceAdd, Nat.reduceSub, Nat.reduceLeDiff, ↓reduceIte, decide_eq_true_eq, if_true, if_false, Bool.false_eq_true, Int.lt_irrefl, implies_true, true_and, and_true, eq_self, and_self, beq_self_eq_true, aw_plan (id := 3) pl65_3, pl65_3, g2, h1.get, h2.get, aw_plan (id := 3) ⟨[0, 1, 2, 3, 4, 5, 6, 7, 8], [(9, [3, 1], []), (10, [], []), (11, [], [])]⟩]
  refine (c161 u1b u2b (lim_limbs _) (lim_limbs _) (by omega) (by omega)).mono ?_
  rintro s3 H3 ⟨l3, u3, m3, v3, e3, h3⟩
  have n3 := h3.next
  try simp only [next_push, next_set, next_kill, wr_next] at n3
  have q3 : Hle H H3 := Hle.trans Hle.auto h3
  simp (maxSteps := 1000000) (disch := first | exact sd | fail) only [go_sem, Nat.reduceAdd, Nat.reduceSub, Nat.reduceLeDiff, ↓reduceIte, decide_eq_true_eq, if_true, if_false, Bool.false_eq_true, Int.lt_irrefl, implies_true, true_and, and_true, eq_self, and_self, beq_self_eq_true, aw_plan (id := 3) pl65_3, pl65_3, h1.get, h2.get, h3.get, g2]
  refine (z150 u3 m3 (by omega)).mono ?_
  rintro r H4 ⟨hr, h4⟩
  have n4 := h4.next
  try simp only [next_push, next_set, next_kill, wr_next] at n4
  have q4 : Hle H H4 := Hle.trans Hle.auto h4
  rw [v3, vX, vY, mul_sign] at hr
  obtain ⟨sr, rfl, hy4, _⟩ := hr.form
  have g4 : H4.get (H.next + 1 + 1) = some (.row true 47 [.bool false, .slice none 0 0]) := by simp (maxSteps := 1000000) (disch := first | exact sd | fail) only [go_sem, Nat.reduceAdd, Nat.reduceSub, Nat.reduceLeDiff, ↓reduceIte, decide_eq_true_eq, if_true, if_false, Bool.false_eq_true, Int.lt_irrefl, implies_true, true_and, and_true, eq_self, and_self, beq_self_eq_true, aw_plan (id := 3) pl65_3, pl65_3, h1.get, h2.get, h3.get, h4.get]
  simp (maxSteps := 1000000) (disch := first | exact sd | fail) only [go_sem, Nat.reduceAdd, Nat.reduceSub, Nat.reduceLeDiff, ↓reduceIte, decide_eq_true_eq, if_true, if_false, Bool.false_eq_true, Int.lt_irrefl, implies_true, true_and, and_true, eq_self, and_self, beq_self_eq_true, aw_plan (id := 3) pl65_3, pl65_3, g4]
  exact ⟨hr.setbox g4 _, Hle.auto⟩

theorem z64 {H : Heap} {v w : Value} {y z : Int} {K L : Nat} (h : IZ H v y K) (h' : IZ H w z L) (hK : K ≤ 2 ^ 40) (hL : L ≤ 2 ^ 40) : ACalls Try.prog 31 [v, w] H fun r H' => IN H' r (y - z) ∧ Hle H H' := by
  obtain ⟨ng, sl, rfl, hy0⟩ := h.form
  obtain ⟨mg, sm, rfl, hy0'⟩ := h'.form
  refine ACalls.of_code T.hm (n := 7) Try.func31 rfl rfl rfl rfl ?_; simp only [List.replicate_succ, List.replicate_zero, List.cons_append, List.nil_append]
  simp (maxSteps := 1000000) (disch := first | exact sd | fail) only [go_sem, Nat.reduceAdd, Nat.reduceSub, Nat.reduceLeDiff, ↓reduceIte, decide_eq_true_eq, if_true, if_false, Bool.false_eq_true, Int.lt_irrefl, implies_true, true_and, and_true, eq_self, and_self, beq_self_eq_true, aw_plan (id := 1) pl64_1, pl64_1, aw_plan (id := 1) ⟨[0, 1], [(2, [0], []), (3, [], []), (4, [], [])]⟩]
  refine (z67 (h'.mono Hle.auto) (by omega)).mono ?_
  rintro r1 H1 ⟨hr1, h1⟩
  have n1 := h1.next
  try simp only [next_push, next_set, next_kill, wr_next] at n1
  have q1 : Hle H H1 := Hle.trans Hle.auto h1
  simp (maxSteps := 1000000) (disch := first | exact sd | fail) only [go_sem, Nat.reduceAdd, Nat.reduceSub, Nat.reduceLeDiff, ↓reduceIte, decide_eq_true_eq, if_true, if_false, Bool.false_eq_true, Int.lt_irrefl, implies_true, true_and, and_true, eq_self, and_self, beq_self_eq_true, aw_plan (id := 1) pl64_1, pl64_1, h1.get]
  refine (z63 (h.mono Hle.auto) hr1.iz (by omega) (by rw [ln_neg]; have := h'.ln; omega)).mono ?_
  rintro r H2 ⟨hr, h2⟩
  have n2 := h2.next
  try simp only [next_push, next_set, next_kill, wr_next] at n2
  have q2 : Hle H H2 := Hle.trans Hle.auto h2
  obtain ⟨sr, rfl, hy7, _⟩ := hr.form
  have hg7 : H2.get (H.next + 1 + 1) = some (.row true 47 [.bool false, .slice none 0 0]) := by simp (maxSteps := 1000000) (disch := first | exact sd | fail) only [go_sem, Nat.reduceAdd, Nat.reduceSub, Nat.reduceLeDiff, ↓reduceIte, decide_eq_true_eq, if_true, if_false, Bool.false_eq_true, Int.lt_irrefl, implies_true, true_and, and_true, eq_self, and_self, beq_self_eq_true, aw_plan (id := 1) pl64_1, pl64_1, h1.get, h2.get]
  simp (maxSteps := 1000000) (disch := first | exact sd | fail) only [go_sem, Nat.reduceAdd, Nat.reduceSub, Nat.reduceLeDiff, ↓reduceIte, decide_eq_true_eq, if_true, if_false, Bool.false_eq_true, Int.lt_irrefl, implies_true, true_and, and_true, eq_self, and_self, beq_self_eq_true, aw_plan (id := 1) pl64_1, pl64_1, h1.get, h2.get, hg7]
  exact ⟨hr.setbox hg7 _, Hle.auto⟩

theorem z68 {H : Heap} {v w : Value} {y z : Int} {K L : Nat} (h : IZ H v y K) (h' : IZ H w z L) (hK : K ≤ 2 ^ 40) (hL : L ≤ 2 ^ 40) : ACalls Try.prog 16 [v, w] H fun r H' => r = .int .i64 (sg (y - z)) ∧ Hle H H' := by
  have hk := h.ln
  have hk' := h'.ln
  have hk3 := ln_sub y z
  obtain ⟨ng, sl, rfl, hy0⟩ := h.form
  obtain ⟨mg, sm, rfl, hy0'⟩ := h'.form
  refine ACalls.of_code T.hm (n := 13) Try.func16 rfl rfl rfl rfl ?_; simp only [List.replicate_succ, List.replicate_zero, List.cons_append, List.nil_append]
  simp (maxSteps := 1000000) (disch := first | exact sd | fail) only [go_sem, Nat.reduceAdd, Nat.reduceSub, Nat.reduceLeDiff, ↓reduceIte, decide_eq_true_eq, if_true, if_false, Bool.false_eq_true, Int.lt_irrefl, implies_true, true_and, and_true, eq_self, and_self, beq_self_eq_true]
  refine (z64 (h.mono Hle.auto) (h'.mono Hle.auto) (by omega) (by omega)).mono ?_
  rintro r1 H1 ⟨hr1, h1⟩
  have n1 := h1.next
  try simp only [next_push, next_set, next_kill, wr_next] at n1
  have q1 : Hle H H1 := Hle.trans Hle.auto h1
  obtain ⟨s1, rfl, y1, u1⟩ := hr1.form
  unfold ln at hk3
  have hnn : (limbs (y - z).natAbs).length = 0 ↔ y - z = 0 := by rw [List.length_eq_zero_iff, limbs_nil]; omega
  by_cases b0 : y - z = 0
  · have b1 : ((limbs (y - z).natAbs).length : Int) = 0 := by have := hnn.2 b0; omega
    simp (maxSteps := 1000000) (disch := first | exact sd | fail) only [go_sem, Nat.reduceAdd, Nat.reduceSub, Nat.reduceLeDiff, ↓reduceIte, decide_eq_true_eq, if_true, if_false, Bool.false_eq_true, Int.lt_irrefl, implies_true, true_and, and_true, eq_self, and_self, beq_self_eq_true, u1.len T.i22, b1]
    exact ⟨by rw [b0]; rfl, Hle.auto⟩
  · have b1 : ¬ ((limbs (y - z).natAbs).length : Int) = 0 := by intro h; exact b0 (hnn.1 (by omega))
    by_cases b2 : y - z < 0
    · simp (maxSteps := 1000000) (disch := first | exact sd | fail) only [go_sem, Nat.reduceAdd, Nat.reduceSub, Nat.reduceLeDiff, ↓reduceIte, decide_eq_true_eq, if_true, if_false, Bool.false_eq_true, Int.lt_irrefl, implies_true, true_and, and_true, eq_self, and_self, beq_self_eq_true, u1.len T.i22, b1, b2]
      exact ⟨by rw [sg, if_pos b2], Hle.auto⟩
    · simp (maxSteps := 1000000) (disch := first | exact sd | fail) only [go_sem, Nat.reduceAdd, Nat.reduceSub, Nat.reduceLeDiff, ↓reduceIte, decide_eq_true_eq, if_true, if_false, Bool.false_eq_true, Int.lt_irrefl, implies_true, true_and, and_true, eq_self, and_self, beq_self_eq_true, u1.len T.i22, b1, b2]
      exact ⟨by rw [sg, if_neg b2, if_pos (by omega)], Hle.auto⟩
end Go.Abs

/- More contracts as laws take them. -/
set_option linter.unusedVariables false
set_option linter.unusedSimpArgs false
namespace Go.Abs
open Go Go.Proofs
set_option maxRecDepth 100000
set_option maxHeartbeats 40000000
set_option linter.unusedSimpArgs false

theorem w67 {H : Heap} {v : Value} {z : Int} {K : Nat} (h : IZ H v z K) (hK : K ≤ 2 ^ 40) : ACalls Try.prog 52 [v] H fun r H' => IN H' r (-z) ∧ ln (-z) ≤ K ∧ Hle H H' :=
  (z67 h hK).mono fun r H' ⟨h1, h2⟩ => ⟨h1, by rw [ln_neg]; exact h.ln, h2⟩
theorem w63 {H : Heap} {v w : Value} {y z : Int} {K L : Nat} (h : IZ H v y K) (h' : IZ H w z L) (hK : K ≤ 2 ^ 40) (hL : L ≤ 2 ^ 40) : ACalls Try.prog 51 [v, w] H fun r H' => IN H' r (y + z) ∧ ln (y + z) ≤ max K L + 1 ∧ Hle H H' :=
  (z63 h h' hK hL).mono fun r H' ⟨h1, h2⟩ => ⟨h1, by have := ln_add y z; have := h.ln; have := h'.ln; omega, h2⟩
theorem w64 {H : Heap} {v w : Value} {y z : Int} {K L : Nat} (h : IZ H v y K) (h' : IZ H w z L) (hK : K ≤ 2 ^ 40) (hL : L ≤ 2 ^ 40) : ACalls Try.prog 31 [v, w] H fun r H' => IN H' r (y - z) ∧ ln (y - z) ≤ max K L + 1 ∧ Hle H H' :=
  (z64 h h' hK hL).mono fun r H' ⟨h1, h2⟩ => ⟨h1, by have := ln_sub y z; have := h.ln; have := h'.ln; omega, h2⟩
theorem w65 {H : Heap} {v w : Value} {y z : Int} {K L : Nat} (h : IZ H v y K) (h' : IZ H w z L) (hK : K ≤ 2 ^ 40) (hL : L ≤ 2 ^ 40) : ACalls Try.prog 30 [v, w] H fun r H' => IN H' r (y * z) ∧ ln (y * z) ≤ K + L ∧ Hle H H' :=
  (z65 h h' hK hL).mono fun r H' ⟨h1, h2⟩ => ⟨h1, by have := ln_mul y z; have := h.ln; have := h'.ln; omega, h2⟩
theorem w55 {H : Heap} {v w : Value} {y z : Int} {K L : Nat} (h : IZ H v y K) (h' : IZ H w z L) (hK : K ≤ 2 ^ 40) (hL : L ≤ 2 ^ 40) : ACalls Try.prog 58 [v, w] H fun r H' => r = .int .i64 (sg (y - z)) ∧ True ∧ Hle H H' :=
  (z55 h h' hK hL).mono fun r H' ⟨h1, h2⟩ => ⟨h1, trivial, h2⟩
theorem w68 {H : Heap} {v w : Value} {y z : Int} {K L : Nat} (h : IZ H v y K) (h' : IZ H w z L) (hK : K ≤ 2 ^ 40) (hL : L ≤ 2 ^ 40) : ACalls Try.prog 16 [v, w] H fun r H' => r = .int .i64 (sg (y - z)) ∧ True ∧ Hle H H' :=
  (z68 h h' hK hL).mono fun r H' ⟨h1, h2⟩ => ⟨h1, trivial, h2⟩
/-- A number's limbs, copied. -/
theorem copied {H : Heap} {sl : Value} {l : List Int} (hu : U Try.prog H sl l) (hb : l.length ≤ 2 ^ 40) :
    aAppend Try.prog (H.push (.row true 66 [])) #[45, 45] (.slice (some ⟨H.next, 0, none⟩) 0 0) sl = some (apV Try.prog (H.push (.row true 66 [])) #[45, 45] (.slice (some ⟨H.next, 0, none⟩) 0 0) sl, apH Try.prog (H.push (.row true 66 [])) #[45, 45] (.slice (some ⟨H.next, 0, none⟩) 0 0) sl) ∧
      UO Try.prog H (apH Try.prog (H.push (.row true 66 [])) #[45, 45] (.slice (some ⟨H.next, 0, none⟩) 0 0) sl) (apV Try.prog (H.push (.row true 66 [])) #[45, 45] (.slice (some ⟨H.next, 0, none⟩) 0 0) sl) l ∧ Hle H (apH Try.prog (H.push (.row true 66 [])) #[45, 45] (.slice (some ⟨H.next, 0, none⟩) 0 0) sl) := by
  have h1 : UO Try.prog H (H.push (.row true 66 [])) (.slice (some ⟨H.next, 0, none⟩) 0 0) [] := UO.fresh Hle.rfl rfl (by simp [unk]) (by simp)
  obtain ⟨h2, h3, h4, _⟩ := h1.append (Hle.push0 _) (hu.mono (Hle.push0 _)) (by simp; omega)
  exact ⟨h2, h3, h4⟩
theorem aApp_blk {P : Program} {H H' : Heap} {el : TypeId} {bytes : Nat} {news : List Value} {m : Nat} {base : Option Addr} {n c : Nat} {v : Value} (h : aApp P H el bytes news m base n c = some (v, H')) : sblk v = sblk (.slice base n c) ∨ sblk v = H.next := by
  unfold aApp at h
  repeat' split at h
  all_goals first
    | cases h; done
    | (simp only [Option.some.injEq, Prod.mk.injEq] at h; obtain ⟨rfl, _⟩ := h; simp [sblk])
theorem aMade_blk {P : Program} {H H' : Heap} {sT : TypeId} {ats : Array TypeId} {base : Option Addr} {n c : Nat} {x v : Value} (h : aMade P H sT ats base n c x = some (v, H')) : sblk v = sblk (.slice base n c) ∨ sblk v = H.next := by
  unfold aMade at h
  repeat' split at h
  all_goals first
    | cases h; done
    | exact aApp_blk h
theorem append_blk {P : Program} {H H' : Heap} {ats : Array TypeId} {s x v : Value} (h : aAppend P H ats s x = some (v, H')) : sblk v = sblk s ∨ sblk v = H.next := by
  unfold aAppend at h
  repeat' split at h
  all_goals first
    | cases h; done
    | exact aApp_blk h
    | exact aMade_blk h
end Go.Abs
