/- Joined: N15, N19, N21, N22. -/
import Derived.Test.YtfadclnaahanmaaNd
import Derived.Test.YtfadclnaahanmaaNc
import Derived.Test.YtfadclnaahanmaaA29
import Derived.Test.YtfadclnaahanmaaL4
import Derived.Test.YtfadclnaahanmaaN20
/- The product of two numbers. -/
set_option linter.unusedVariables false
set_option linter.unusedSimpArgs false
namespace Go.Abs
open Go Go.Proofs
set_option maxRecDepth 100000
set_option maxHeartbeats 4000000
set_option linter.unusedSimpArgs false


def pl54_1 : Plan := ⟨[0, 2], [(1, [2], []), (3, [], [4, 5])]⟩
def pl54_16 : Plan := ⟨[0, 2, 5], [(1, [2], []), (3, [], [4]), (6, [], []), (7, [], [])]⟩
theorem c54 {H : Heap} {v w : Value} {y z : Int} {K L : Nat} (h : IZ H v y K) (h' : IZ H w z L) (hK : K ≤ 2 ^ 40) (hL : L ≤ 2 ^ 40) : ACalls Try.prog 64 [v, w] H fun r H' => IN H' r (y * z) ∧ Hle H H' := by
  have hk1 := h.ln
  have hk2 := h'.ln
  unfold ln at hk1 hk2
  obtain ⟨ng, l, ⟨sl, rfl, _, _⟩, _, _⟩ := id h
  obtain ⟨mg, m, ⟨sm, rfl, _, _⟩, _, _⟩ := id h'
  refine ACalls.of_code T.hm (n := 76) Try.func64 rfl rfl rfl rfl ?_; simp only [List.replicate_succ, List.replicate_zero, List.cons_append, List.nil_append]
  simp (maxSteps := 1000000) (disch := first | exact sd | fail) only [go_sem, Nat.reduceAdd, Nat.reduceSub, Nat.reduceLeDiff, ↓reduceIte, decide_eq_true_eq, if_true, if_false, Bool.false_eq_true, Int.lt_irrefl, implies_true, true_and, and_true, eq_self, and_self, beq_self_eq_true, aw_plan (id := 1) pl54_1, pl54_1, aw_plan (id := 16) pl54_16, pl54_16, aw_plan (id := 1) ⟨[0, 2], [(1, [2], []), (3, [], [4, 5])]⟩]
  refine (z142 (h.mono Hle.auto) (by omega)).mono ?_
  rintro x1 H1 ⟨hx, h1⟩
  have n1 := h1.next
  try simp only [next_push, next_set, next_kill, wr_next] at n1
  have q1 : Hle H H1 := Hle.trans Hle.auto h1
  simp (maxSteps := 1000000) (disch := first | exact sd | fail) only [go_sem, Nat.reduceAdd, Nat.reduceSub, Nat.reduceLeDiff, ↓reduceIte, decide_eq_true_eq, if_true, if_false, Bool.false_eq_true, Int.lt_irrefl, implies_true, true_and, and_true, eq_self, and_self, beq_self_eq_true, aw_plan (id := 1) pl54_1, pl54_1, aw_plan (id := 16) pl54_16, pl54_16, h1.get]
  refine (z142 (h'.mono Hle.auto) (by omega)).mono ?_
  rintro x2 H2 ⟨hy, h2⟩
  have n2 := h2.next
  try simp only [next_push, next_set, next_kill, wr_next] at n2
  have q2 : Hle H H2 := Hle.trans Hle.auto h2
  have hx2 := hx.mono h2
  have lX := lim_limbs y.natAbs
  have lY := lim_limbs z.natAbs
  have vX := val_limbs y.natAbs
  have vY := val_limbs z.natAbs
  generalize limbs y.natAbs = X at *
  generalize limbs z.natAbs = Y at *
  simp (maxSteps := 1000000) (disch := first | exact sd | fail) only [go_sem, Nat.reduceAdd, Nat.reduceSub, Nat.reduceLeDiff, ↓reduceIte, decide_eq_true_eq, if_true, if_false, Bool.false_eq_true, Int.lt_irrefl, implies_true, true_and, and_true, eq_self, and_self, beq_self_eq_true, aw_plan (id := 1) pl54_1, pl54_1, aw_plan (id := 16) pl54_16, pl54_16, h1.get, h2.get, hx2.len T.i22, hx2.addr Try.underlying38 T.s50 T.z50, hx2.loadh T.r50,  hy.len T.i22,  hy.addr Try.underlying38 T.s50 T.z50,  hy.loadh T.r50, show ((X.length : Int) + Y.length).toNat = X.length + Y.length by omega, aMk_int]
  have hO := zeros_own (H := H2) (n := X.length + Y.length) (by omega)
  generalize hso : Value.slice (some ⟨H2.next, 0, none⟩) (X.length + Y.length) (X.length + Y.length) = so at hO ⊢
  refine aw_loopJ (σ := Nat × List Int) (fun s J => [J 0, J 1, .pointer (some ⟨H.next, 0, none⟩), .pointer (some ⟨H.next + 1, 0, none⟩), .pointer (some ⟨H.next + 1 + 1, 0, none⟩), x1, x2, so, J 8, J 9, J 10, J 11, J 12, J 13, J 14, J 15, J 16, J 17, J 18, J 19, J 20, J 21, J 22, x1, .int .i64 X.length, .int .i64 s.1, J 26, J 27, J 28, J 29, J 30, J 31, J 32, J 33, J 34, J 35, J 36, J 37, J 38, J 39, J 40, J 41, J 42, J 43, J 44, J 45, J 46, J 47, J 48, J 49, J 50, J 51, J 52, J 53, J 54, J 55, J 56, J 57, J 58, J 59, J 60, J 61, J 62, J 63, J 64, J 65, J 66, J 67, J 68, J 69, J 70, J 71, J 72, J 73, J 74, J 75, J 76, J 77]) (fun n s H3 => n = X.length - s.1 ∧ s.1 ≤ X.length ∧ Hle H2 H3 ∧ UO Try.prog H2 H3 so s.2 ∧ MulInv X Y s.2 s.1) X.length (0, List.replicate (X.length + Y.length) 0) rfl ⟨rfl, Nat.zero_le _, Hle.push0 _, hO, MulInv.init⟩ ?_
  rintro n ⟨i, o⟩ J H3 ⟨rfl, hi, hle3, ho, hm⟩
  simp only at hi ho hm
  have hx3 := hx2.mono hle3
  have hy3 := hy.mono hle3
  have hml := hm.len
  by_cases h4 : (i : Int) < X.length
  rotate_left
  · have hix : i = X.length := by omega
    subst hix
    simp (maxSteps := 1000000) (disch := first | exact sd | fail) only [go_sem, Nat.reduceAdd, Nat.reduceSub, Nat.reduceLeDiff, ↓reduceIte, decide_eq_true_eq, if_true, if_false, Bool.false_eq_true, Int.lt_irrefl, implies_true, true_and, and_true, eq_self, and_self, beq_self_eq_true, aw_plan (id := 1) pl54_1, pl54_1, aw_plan (id := 16) pl54_16, pl54_16, h4, hx3.len T.i22, hx3.addr Try.underlying38 T.s50 T.z50, hx3.loadh T.r50]
    have hvo := hm.done lX lY
    have n3 := hle3.next
    try simp only [next_push, next_set, next_kill, wr_next] at n3
    simp (maxSteps := 1000000) (disch := first | exact sd | fail) only [go_sem, Nat.reduceAdd, Nat.reduceSub, Nat.reduceLeDiff, ↓reduceIte, decide_eq_true_eq, if_true, if_false, Bool.false_eq_true, Int.lt_irrefl, implies_true, true_and, and_true, eq_self, and_self, beq_self_eq_true, aw_plan (id := 1) pl54_1, pl54_1, aw_plan (id := 16) pl54_16, pl54_16, h1.get, h2.get, hle3.get, aw_plan (id := 16) ⟨[0, 2, 5], [(1, [2], []), (3, [], [4]), (6, [], []), (7, [], [])]⟩]
    refine (z145 (h.mono Hle.auto) (by omega)).mono ?_
    rintro _ H4 ⟨rfl, h4⟩
    have n4 := h4.next
    try simp only [next_push, next_set, next_kill, wr_next] at n4
    have q4 : Hle H H4 := Hle.trans Hle.auto h4
    simp (maxSteps := 1000000) (disch := first | exact sd | fail) only [go_sem, Nat.reduceAdd, Nat.reduceSub, Nat.reduceLeDiff, ↓reduceIte, decide_eq_true_eq, if_true, if_false, Bool.false_eq_true, Int.lt_irrefl, implies_true, true_and, and_true, eq_self, and_self, beq_self_eq_true, aw_plan (id := 1) pl54_1, pl54_1, aw_plan (id := 16) pl54_16, pl54_16, h1.get, h2.get, h4.get, hle3.get]
    refine (z145 (h'.mono Hle.auto) (by omega)).mono ?_
    rintro _ H5 ⟨rfl, h5⟩
    have n5 := h5.next
    try simp only [next_push, next_set, next_kill, wr_next] at n5
    have q5 : Hle H H5 := Hle.trans Hle.auto h5
    simp (maxSteps := 1000000) (disch := first | exact sd | fail) only [go_sem, Nat.reduceAdd, Nat.reduceSub, Nat.reduceLeDiff, ↓reduceIte, decide_eq_true_eq, if_true, if_false, Bool.false_eq_true, Int.lt_irrefl, implies_true, true_and, and_true, eq_self, and_self, beq_self_eq_true, aw_plan (id := 1) pl54_1, pl54_1, aw_plan (id := 16) pl54_16, pl54_16, h1.get, h2.get, h4.get, h5.get, hle3.get]
    have e : (if (decide (y < 0) != decide (z < 0)) = true then -(val o) else val o) = y * z := by
      rw [hvo, vX, vY]
      exact mul_sign y z
    refine (z144 (ho.u.mono Hle.auto) hm.lim (by omega)).mono ?_
    rintro r H6 ⟨hr, h6⟩
    have n6 := h6.next
    try simp only [next_push, next_set, next_kill, wr_next] at n6
    have q6 : Hle H H6 := Hle.trans Hle.auto h6
    rw [e] at hr
    obtain ⟨sr, rfl, hy7, _⟩ := hr.form
    have hg7 : H6.get (H.next + 1 + 1) = some (.row true 40 [.bool false, .slice none 0 0]) := by simp (maxSteps := 1000000) (disch := first | exact sd | fail) only [go_sem, Nat.reduceAdd, Nat.reduceSub, Nat.reduceLeDiff, ↓reduceIte, decide_eq_true_eq, if_true, if_false, Bool.false_eq_true, Int.lt_irrefl, implies_true, true_and, and_true, eq_self, and_self, beq_self_eq_true, aw_plan (id := 1) pl54_1, pl54_1, aw_plan (id := 16) pl54_16, pl54_16, h1.get, h2.get, h4.get, h5.get, h6.get, hle3.get]
    simp (maxSteps := 1000000) (disch := first | exact sd | fail) only [go_sem, Nat.reduceAdd, Nat.reduceSub, Nat.reduceLeDiff, ↓reduceIte, decide_eq_true_eq, if_true, if_false, Bool.false_eq_true, Int.lt_irrefl, implies_true, true_and, and_true, eq_self, and_self, beq_self_eq_true, aw_plan (id := 1) pl54_1, pl54_1, aw_plan (id := 16) pl54_16, pl54_16, hg7]
    exact ⟨hr.setbox hg7 _, Hle.auto⟩
  have hui := lX.getD i
  simp (maxSteps := 1000000) (disch := first | exact sd | fail) only [go_sem, Nat.reduceAdd, Nat.reduceSub, Nat.reduceLeDiff, ↓reduceIte, decide_eq_true_eq, if_true, if_false, Bool.false_eq_true, Int.lt_irrefl, implies_true, true_and, and_true, eq_self, and_self, beq_self_eq_true, aw_plan (id := 1) pl54_1, pl54_1, aw_plan (id := 16) pl54_16, pl54_16, h4, hx3.len T.i22, hx3.addr Try.underlying38 T.s50 T.z50, hx3.loadh T.r50,  hy3.len T.i22,  hy3.addr Try.underlying38 T.s50 T.z50,  hy3.loadh T.r50, Int.toNat_natCast]
  refine aw_loopJ (σ := Nat × Int × List Int) (fun s J => [J 0, J 1, .pointer (some ⟨H.next, 0, none⟩), .pointer (some ⟨H.next + 1, 0, none⟩), .pointer (some ⟨H.next + 1 + 1, 0, none⟩), x1, x2, so, .int .i64 i, .int .u32 (X.getD i 0), .int .u64 s.2.1, J 11, J 12, J 13, J 14, J 15, J 16, J 17, J 18, J 19, J 20, J 21, J 22, x1, .int .i64 X.length, .int .i64 i, J 26, J 27, J 28, J 29, x2, .int .i64 Y.length, .int .i64 s.1, J 33, J 34, J 35, J 36, J 37, J 38, J 39, J 40, J 41, J 42, J 43, J 44, J 45, J 46, J 47, J 48, J 49, J 50, J 51, J 52, J 53, J 54, J 55, J 56, J 57, J 58, J 59, J 60, J 61, J 62, J 63, J 64, J 65, J 66, J 67, J 68, J 69, J 70, J 71, J 72, J 73, J 74, J 75, J 76, J 77]) (fun n s H4 => n = Y.length - s.1 ∧ s.1 ≤ Y.length ∧ Hle H2 H4 ∧ UO Try.prog H2 H4 so s.2.2 ∧ RowInv (X.getD i 0) Y o s.2.2 i s.1 s.2.1) Y.length (0, 0, o) rfl ⟨rfl, Nat.zero_le _, hle3, ho, RowInv.init hm.lim⟩ ?_
  rintro n2 ⟨k, c, o2⟩ J2 H4 ⟨rfl, hk, hle4, ho2, hr⟩
  simp only at hk ho2 hr
  have hx4 := hx2.mono hle4
  have hy4 := hy.mono hle4
  have hrl := hr.len
  have hrc := hr.cb
  by_cases h5 : (k : Int) < Y.length
  · have hvk := lY.getD k
    have hw := hr.lim.getD (i + k)
    have hmb := mul_bound hui hvk
    have hst := rowL_step hui hvk hw hrc
    have hstep := hr.step hui lY (by omega) (by omega)
    have w1 := wrap_u64' hmb.1 (by omega)
    have w2 := wrap_u64' (z := X.getD i 0 * Y.getD k 0 + o2.getD (i + k) 0) (by omega) (by omega)
    have w3 := wrap_u64' hst.1 hst.2.1
    have w4 := wrap_u64' (z := X.getD i 0 * Y.getD k 0 + o2.getD (i + k) 0 + c) (by omega) (by omega)
    have w5 : X.getD i 0 * Y.getD k 0 + o2.getD (i + k) 0 + c = c + (X.getD i 0 * Y.getD k 0 + o2.getD (i + k) 0) := by omega
    rw [w5] at w4
    obtain ⟨s1, s2, s3⟩ := ho2.store (o := i + k) (x := (c + (X.getD i 0 * Y.getD k 0 + o2.getD (i + k) 0)) % 4294967296) hle4 (by omega)
    have hou := ho2.u
    have hia : ((i : Int) + (k : Int)).toNat = i + k := by omega
    simp (maxSteps := 1000000) (disch := first | exact sd | fail) only [go_sem, Nat.reduceAdd, Nat.reduceSub, Nat.reduceLeDiff, ↓reduceIte, decide_eq_true_eq, if_true, if_false, Bool.false_eq_true, Int.lt_irrefl, implies_true, true_and, and_true, eq_self, and_self, beq_self_eq_true, aw_plan (id := 1) pl54_1, pl54_1, aw_plan (id := 16) pl54_16, pl54_16, h4, h5, hx4.len T.i22, hx4.addr Try.underlying38 T.s50 T.z50, hx4.loadh T.r50,  hy4.len T.i22,  hy4.addr Try.underlying38 T.s50 T.z50,  hy4.loadh T.r50,  hou.len T.i22,  hou.addr Try.underlying38 T.s50 T.z50,  hou.loadh T.r50, Int.toNat_natCast, hia, wrap_u64' hui.1 (Int.lt_trans hui.2 (by decide)), wrap_u64' hvk.1 (Int.lt_trans hvk.2 (by decide)), wrap_u64' hw.1 (Int.lt_trans hw.2 (by decide)), w1, w2, w3, w4, w5, wrap_u32, s1]
    refine e151.mono ?_
    rintro _ _ ⟨rfl, rfl⟩
    simp (maxSteps := 1000000) (disch := first | exact sd | fail) only [go_sem, Nat.reduceAdd, Nat.reduceSub, Nat.reduceLeDiff, ↓reduceIte, decide_eq_true_eq, if_true, if_false, Bool.false_eq_true, Int.lt_irrefl, implies_true, true_and, and_true, eq_self, and_self, beq_self_eq_true, aw_plan (id := 1) pl54_1, pl54_1, aw_plan (id := 16) pl54_16, pl54_16, hia, hou.len T.i22, hou.addr Try.underlying38 T.s50 T.z50, hou.loadh T.r50, s1]
    exact IJ_intro (k := Y.length - (k + 1)) (by omega) (k + 1, _, _) rfl ⟨rfl, (by first | omega | (dsimp only; omega)), s3, s2, hstep⟩
  · have hkx : k = Y.length := by omega
    subst hkx
    have hcc : c % 4294967296 = c := by omega
    obtain ⟨s1, s2, s3⟩ := ho2.store (o := i + Y.length) (x := c) hle4 (by omega)
    have hd := hr.done (by omega)
    rw [hd] at s2
    have hou := ho2.u
    have hia : ((i : Int) + (Y.length : Int)).toNat = i + Y.length := by omega
    simp (maxSteps := 1000000) (disch := first | exact sd | fail) only [go_sem, Nat.reduceAdd, Nat.reduceSub, Nat.reduceLeDiff, ↓reduceIte, decide_eq_true_eq, if_true, if_false, Bool.false_eq_true, Int.lt_irrefl, implies_true, true_and, and_true, eq_self, and_self, beq_self_eq_true, aw_plan (id := 1) pl54_1, pl54_1, aw_plan (id := 16) pl54_16, pl54_16, h5, hy4.len T.i22, hy4.addr Try.underlying38 T.s50 T.z50, hy4.loadh T.r50,  hou.len T.i22,  hou.addr Try.underlying38 T.s50 T.z50,  hou.loadh T.r50, hia, hcc, wrap_u32, s1]
    refine e151.mono ?_
    rintro _ _ ⟨rfl, rfl⟩
    simp (maxSteps := 1000000) (disch := first | exact sd | fail) only [go_sem, Nat.reduceAdd, Nat.reduceSub, Nat.reduceLeDiff, ↓reduceIte, decide_eq_true_eq, if_true, if_false, Bool.false_eq_true, Int.lt_irrefl, implies_true, true_and, and_true, eq_self, and_self, beq_self_eq_true, aw_plan (id := 1) pl54_1, pl54_1, aw_plan (id := 16) pl54_16, pl54_16, hia, hcc, hou.len T.i22, hou.addr Try.underlying38 T.s50 T.z50, hou.loadh T.r50, s1]
    exact IJ_intro (k := X.length - (i + 1)) (by omega) (i + 1, _) rfl ⟨rfl, (by first | omega | (dsimp only; omega)), s3, s2, hm.step lX lY (by omega)⟩
end Go.Abs

/- The contracts as laws take them: with how many limbs there are. -/
set_option linter.unusedVariables false
set_option linter.unusedSimpArgs false
namespace Go.Abs
open Go Go.Proofs
set_option maxRecDepth 100000
set_option maxHeartbeats 4000000
set_option linter.unusedSimpArgs false

theorem IZ.nought {H : Heap} : IZ H (.agg ⟨[.bool false, .slice none 0 0]⟩) 0 0 := ⟨false, [], ⟨_, rfl, .nil, Lim.nil⟩, by simp [den, mayB, val], Nat.le_refl _⟩
theorem L.app0 {α : Type} {l : List α} : List.append [] l = l := _root_.id rfl
theorem L.app1 {α : Type} {a : α} {l m : List α} : List.append (a :: l) m = a :: List.append l m := _root_.id rfl
attribute [go_sem] L.app0 L.app1

theorem IAs.two {H : Heap} {s1 s2 : Value} {n1 n2 : Bool} {l1 l2 : List Int} (h1 : U Try.prog H s1 l1) (k1 : Lim l1) (h2 : U Try.prog H s2 l2) (k2 : Lim l2) :
    IAs (H.push (.row true 40 [.bool n1, s1, .bool n2, s2])) (.slice (some ⟨H.next, 0, none⟩) 2 2) [(n1, l1), (n2, l2)] := by
  refine ⟨[.bool n1, s1, .bool n2, s2], ?_, ?_⟩
  · exact Sl.row (P := Try.prog) (es := 2) (n := 2) (off := 0) (cs := [.bool n1, s1, .bool n2, s2]) (get_push_self _ _) (by simp) (.inr T.s24) (.inr ⟨Nat.le_refl _, by unfold unk; omega⟩) (by simp)
  · intro i ng' l' h
    match i, h with
    | 0, h =>
      simp only [List.getElem?_cons_zero, Option.some.injEq, Prod.mk.injEq] at h
      obtain ⟨rfl, rfl⟩ := h
      exact ⟨s1, rfl, rfl, h1.mono (Hle.push0 _), k1⟩
    | 1, h =>
      simp only [List.getElem?_cons_zero, List.getElem?_cons_succ, Option.some.injEq, Prod.mk.injEq] at h
      obtain ⟨rfl, rfl⟩ := h
      exact ⟨s2, rfl, rfl, h2.mono (Hle.push0 _), k2⟩
    | i + 2, h => simp at h
end Go.Abs

/- The document's sums, differences, products, opposites, which is greater. -/
set_option linter.unusedVariables false
set_option linter.unusedSimpArgs false
namespace Go.Abs
open Go Go.Proofs
set_option maxRecDepth 100000
set_option maxHeartbeats 40000000
set_option linter.unusedSimpArgs false

def pl63_4 : Plan := ⟨[0, 1, 2, 3, 4, 5], [(6, [1], []), (7, [], []), (8, [], [])]⟩
def pl63_6 : Plan := ⟨[0, 1, 2, 3, 4, 5], [(6, [1], []), (7, [], []), (8, [], [])]⟩
def pl63_7 : Plan := ⟨[0, 1, 2, 3, 4, 5], [(6, [1], []), (7, [], []), (8, [], [])]⟩
def pl64_1 : Plan := ⟨[0, 1], [(2, [0], []), (3, [], []), (4, [], [])]⟩
def pl65_3 : Plan := ⟨[0, 1, 2, 3, 4, 5, 6, 7, 8], [(9, [3, 1], []), (10, [], []), (11, [], [])]⟩
theorem U.setbox {H : Heap} {sl : Value} {l : List Int} (h : U Try.prog H sl l) {b : Nat} {cs : List Value} (hg : H.get b = some (.row true 40 cs)) (o : AObj) : U Try.prog (H.set b o) sl l := Sl.setbox h hg (by rw [T.s24]; decide) o
theorem z65 {H : Heap} {v w : Value} {y z : Int} {K L : Nat} (h : IZ H v y K) (h' : IZ H w z L) (hK : K ≤ 2 ^ 40) (hL : L ≤ 2 ^ 40) : ACalls Try.prog 66 [v, w] H fun r H' => IN H' r (y * z) ∧ Hle H H' := by
  obtain ⟨ng, sl, rfl, hy0⟩ := h.form
  obtain ⟨mg, sm, rfl, hy0'⟩ := h'.form
  refine ACalls.of_code T.hm (n := 18) Try.func66 rfl rfl rfl rfl ?_; simp only [List.replicate_succ, List.replicate_zero, List.cons_append, List.nil_append]
  have hk := h.ln
  have hk' := h'.ln
  have hk2 := hk
  have hk2' := hk'
  unfold ln at hk2 hk2'
  have vX := val_limbs y.natAbs
  have vY := val_limbs z.natAbs
  simp (maxSteps := 1000000) (disch := first | exact sd | fail) only [go_sem, Nat.reduceAdd, Nat.reduceSub, Nat.reduceLeDiff, ↓reduceIte, decide_eq_true_eq, if_true, if_false, Bool.false_eq_true, Int.lt_irrefl, implies_true, true_and, and_true, eq_self, and_self, beq_self_eq_true, aw_plan (id := 3) pl65_3, pl65_3]
  refine (z148 (h.mono Hle.auto) (by omega)).mono ?_
  rintro r1 H1 ⟨hr1, h1⟩
  have n1 := h1.next
  try simp only [next_push, next_set, next_kill, wr_next] at n1
  have q1 : Hle H H1 := Hle.trans Hle.auto h1
  obtain ⟨s1, rfl, y1, u1⟩ := hr1.form
  have g1 : H1.get H.next = some (.row true 40 [.bool ng, sl]) := by simp (maxSteps := 1000000) (disch := first | exact sd | fail) only [go_sem, Nat.reduceAdd, Nat.reduceSub, Nat.reduceLeDiff, ↓reduceIte, decide_eq_true_eq, if_true, if_false, Bool.false_eq_true, Int.lt_irrefl, implies_true, true_and, and_true, eq_self, and_self, beq_self_eq_true, aw_plan (id := 3) pl65_3, pl65_3, h1.get]
  have u1a := u1.setbox g1 (.row true 40 [.bool (decide (y < 0)), s1])
  simp (maxSteps := 1000000) (disch := first | exact sd | fail) only [go_sem, Nat.reduceAdd, Nat.reduceSub, Nat.reduceLeDiff, ↓reduceIte, decide_eq_true_eq, if_true, if_false, Bool.false_eq_true, Int.lt_irrefl, implies_true, true_and, and_true, eq_self, and_self, beq_self_eq_true, aw_plan (id := 3) pl65_3, pl65_3, g1, h1.get]
  refine (z148 (h'.mono Hle.auto) (by omega)).mono ?_
  rintro r2 H2 ⟨hr2, h2⟩
  have n2 := h2.next
  try simp only [next_push, next_set, next_kill, wr_next] at n2
  have q2 : Hle H H2 := Hle.trans Hle.auto h2
  obtain ⟨s2, rfl, y2, u2⟩ := hr2.form
  have g2 : H2.get (H.next + 1) = some (.row true 40 [.bool mg, sm]) := by simp (maxSteps := 1000000) (disch := first | exact sd | fail) only [go_sem, Nat.reduceAdd, Nat.reduceSub, Nat.reduceLeDiff, ↓reduceIte, decide_eq_true_eq, if_true, if_false, Bool.false_eq_true, Int.lt_irrefl, implies_true, true_and, and_true, eq_self, and_self, beq_self_eq_true, aw_plan (id := 3) pl65_3, pl65_3, h1.get, h2.get]
  have u1b := U.setbox (U.mono u1a h2) g2 (.row true 40 [.bool (decide (z < 0)), s2])
  have u2b := u2.setbox g2 (.row true 40 [.bool (decide (z < 0)), s2])
  simp (maxSteps := 1000000) (disch := first | exact sd | fail) only [go_sem, Nat.reduceAdd, Nat.reduceSub, Nat.reduceLeDiff, ↓reduceIte, decide_eq_true_eq, if_true, if_false, Bool.false_eq_true, Int.lt_irrefl, implies_true, true_and, and_true, eq_self, and_self, beq_self_eq_true, aw_plan (id := 3) pl65_3, pl65_3, g2, h1.get, h2.get, aw_plan (id := 3) ⟨[0, 1, 2, 3, 4, 5, 6, 7, 8], [(9, [3, 1], []), (10, [], []), (11, [], [])]⟩]
  refine (c161 u1b u2b (lim_limbs _) (lim_limbs _) (by omega) (by omega)).mono ?_
  rintro s3 H3 ⟨l3, u3, m3, v3, e3, h3⟩
  have n3 := h3.next
  try simp only [next_push, next_set, next_kill, wr_next] at n3
  have q3 : Hle H H3 := Hle.trans Hle.auto h3
  simp (maxSteps := 1000000) (disch := first | exact sd | fail) only [go_sem, Nat.reduceAdd, Nat.reduceSub, Nat.reduceLeDiff, ↓reduceIte, decide_eq_true_eq, if_true, if_false, Bool.false_eq_true, Int.lt_irrefl, implies_true, true_and, and_true, eq_self, and_self, beq_self_eq_true, aw_plan (id := 3) pl65_3, pl65_3, h1.get, h2.get, h3.get, g2]
  refine (z150 u3 m3 (by omega)).mono ?_
  rintro r H4 ⟨hr, h4⟩
  have n4 := h4.next
  try simp only [next_push, next_set, next_kill, wr_next] at n4
  have q4 : Hle H H4 := Hle.trans Hle.auto h4
  rw [v3, vX, vY, mul_sign] at hr
  obtain ⟨sr, rfl, hy4, _⟩ := hr.form
  have g4 : H4.get (H.next + 1 + 1) = some (.row true 40 [.bool false, .slice none 0 0]) := by simp (maxSteps := 1000000) (disch := first | exact sd | fail) only [go_sem, Nat.reduceAdd, Nat.reduceSub, Nat.reduceLeDiff, ↓reduceIte, decide_eq_true_eq, if_true, if_false, Bool.false_eq_true, Int.lt_irrefl, implies_true, true_and, and_true, eq_self, and_self, beq_self_eq_true, aw_plan (id := 3) pl65_3, pl65_3, h1.get, h2.get, h3.get, h4.get]
  simp (maxSteps := 1000000) (disch := first | exact sd | fail) only [go_sem, Nat.reduceAdd, Nat.reduceSub, Nat.reduceLeDiff, ↓reduceIte, decide_eq_true_eq, if_true, if_false, Bool.false_eq_true, Int.lt_irrefl, implies_true, true_and, and_true, eq_self, and_self, beq_self_eq_true, aw_plan (id := 3) pl65_3, pl65_3, g4]
  exact ⟨hr.setbox g4 _, Hle.auto⟩

end Go.Abs

/- More contracts as laws take them. -/
set_option linter.unusedVariables false
set_option linter.unusedSimpArgs false
namespace Go.Abs
open Go Go.Proofs
set_option maxRecDepth 100000
set_option maxHeartbeats 40000000
set_option linter.unusedSimpArgs false

theorem w55 {H : Heap} {v w : Value} {y z : Int} {K L : Nat} (h : IZ H v y K) (h' : IZ H w z L) (hK : K ≤ 2 ^ 40) (hL : L ≤ 2 ^ 40) : ACalls Try.prog 107 [v, w] H fun r H' => r = .int .i64 (sg (y - z)) ∧ True ∧ Hle H H' :=
  (z55 h h' hK hL).mono fun r H' ⟨h1, h2⟩ => ⟨h1, trivial, h2⟩
end Go.Abs
