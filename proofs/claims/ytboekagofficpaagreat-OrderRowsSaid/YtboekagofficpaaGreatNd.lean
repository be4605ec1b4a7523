/- Joined: N14, N16, N17. -/
import Derived.Test.YtboekagofficpaaGreatN13
/- Products of limbs. -/
set_option linter.unusedVariables false
set_option linter.unusedSimpArgs false
namespace Go.Abs
open Go Go.Proofs
set_option maxRecDepth 100000
set_option maxHeartbeats 4000000
set_option linter.unusedSimpArgs false

theorem UO.store {H0 H1 : Heap} {sl : Value} {l : List Int} {o : Nat} {x : Int} (h : UO Tryz.prog H0 H1 sl l) (hle : Hle H0 H1) (ho : o < l.length) :
    aStore Tryz.prog H1 177 (.pointer (some (sadr sl o))) (.int .u32 x) = some (wr H1 sl o (.int .u32 x)) ∧ UO Tryz.prog H0 (wr H1 sl o (.int .u32 x)) sl (l.set o x) ∧ Hle H0 (wr H1 sl o (.int .u32 x)) := by
  have hb := Ow.blk h (by omega)
  refine ⟨Ow.store h T.z50 T.s50 rfl rfl (by simpa using ho), ?_, hle.wr hb.1 _ _⟩
  have := Ow.wr h (v := .int .u32 x) (o := o) (by simpa using ho)
  unfold UO
  rw [List.length_set, List.map_set]
  exact this
theorem zeros_own {H : Heap} {n : Nat} (hn : n < 2 ^ 62) : UO Tryz.prog H (H.push (.row true 177 (List.replicate n (.int .u32 0)))) (.slice (some ⟨H.next, 0, none⟩) n n) (List.replicate n 0) :=
  UO.fresh Hle.rfl (by simp) ⟨Nat.le_refl _, by simp, by unfold unk; omega⟩ (by simp)
theorem IZ.ln {H : Heap} {v : Value} {z : Int} {K : Nat} (h : IZ H v z K) : ln z ≤ K := by
  obtain ⟨ng, l, ⟨sl, _, _, hl⟩, hz, hk⟩ := h
  have := nz_limbs (ng := ng) hl
  unfold Abs.ln
  rw [← hz, ← this]
  unfold nzL
  split
  · exact hk
  · simp


theorem c161 {H : Heap} {sa sb : Value} {a b : List Int} (hu : U Tryz.prog H sa a) (hv : U Tryz.prog H sb b) (ha : Lim a) (hb : Lim b) (hl : a.length ≤ 2 ^ 40) (hl2 : b.length ≤ 2 ^ 40) :
    ACalls Tryz.prog 147 [sa, sb] H fun r H' => ∃ l, U Tryz.prog H' r l ∧ Lim l ∧ val l = val a * val b ∧ l.length ≤ a.length + b.length ∧ Hle H H' := by
  refine ACalls.of_code T.hm (n := 66) Tryz.func147 rfl rfl rfl rfl ?_; simp only [List.replicate_succ, List.replicate_zero, List.cons_append, List.nil_append]
  simp (maxSteps := 1000000) (disch := first | exact sd | fail) only [go_sem, Nat.reduceAdd, Nat.reduceSub, Nat.reduceLeDiff, ↓reduceIte, decide_eq_true_eq, if_true, if_false, Bool.false_eq_true, Int.lt_irrefl, implies_true, true_and, and_true, eq_self, and_self, beq_self_eq_true, aw_drawn (id := 9), aw_drawn' (id := 9), hu.len T.i22, hu.addr Tryz.underlying70 T.s50 T.z50, hu.loadh T.r50,  hv.len T.i22,  hv.addr Tryz.underlying70 T.s50 T.z50,  hv.loadh T.r50, show ((a.length : Int) + b.length).toNat = a.length + b.length by omega, aMk_int]
  have hO := zeros_own (H := H) (n := a.length + b.length) (by omega)
  generalize hso : Value.slice (some ⟨H.next, 0, none⟩) (a.length + b.length) (a.length + b.length) = so at hO ⊢
  refine aw_loopJ (σ := Nat × List Int) (fun s J => [sa, sb, J 2, J 3, .slice none 0 0, so, .int .i64 s.1, J 7, J 8, J 9, J 10, J 11, J 12, J 13, J 14, J 15, J 16, J 17, J 18, J 19, J 20, J 21, J 22, J 23, J 24, J 25, J 26, J 27, J 28, J 29, J 30, J 31, J 32, J 33, J 34, J 35, J 36, J 37, J 38, J 39, J 40, J 41, J 42, J 43, J 44, J 45, J 46, J 47, J 48, J 49, J 50, J 51, J 52, J 53, J 54, J 55, J 56, J 57, J 58, J 59, J 60, J 61, J 62, J 63, J 64, J 65, J 66, J 67]) (fun n s H3 => n = a.length - s.1 ∧ s.1 ≤ a.length ∧ Hle H H3 ∧ UO Tryz.prog H H3 so s.2 ∧ MulInv a b s.2 s.1) a.length (0, List.replicate (a.length + b.length) 0) rfl ⟨rfl, Nat.zero_le _, Hle.push0 _, hO, MulInv.init⟩ ?_
  rintro n ⟨i, o⟩ J H3 ⟨rfl, hi, hle3, ho, hm⟩
  simp only at hi ho hm
  have hx3 := hu.mono hle3
  have hy3 := hv.mono hle3
  have hml := hm.len
  by_cases h4 : (i : Int) < a.length
  rotate_left
  · have hix : i = a.length := by omega
    subst hix
    simp (maxSteps := 1000000) (disch := first | exact sd | fail) only [go_sem, Nat.reduceAdd, Nat.reduceSub, Nat.reduceLeDiff, ↓reduceIte, decide_eq_true_eq, if_true, if_false, Bool.false_eq_true, Int.lt_irrefl, implies_true, true_and, and_true, eq_self, and_self, beq_self_eq_true, aw_drawn (id := 9), aw_drawn' (id := 9), h4, hx3.len T.i22, hx3.addr Tryz.underlying70 T.s50 T.z50, hx3.loadh T.r50]
    have hvo := hm.done ha hb
    refine (c215 ho.u (by omega)).mono ?_
    rintro r _ ⟨hr, rfl⟩
    simp (maxSteps := 1000000) (disch := first | exact sd | fail) only [go_sem, Nat.reduceAdd, Nat.reduceSub, Nat.reduceLeDiff, ↓reduceIte, decide_eq_true_eq, if_true, if_false, Bool.false_eq_true, Int.lt_irrefl, implies_true, true_and, and_true, eq_self, and_self, beq_self_eq_true, aw_drawn (id := 9), aw_drawn' (id := 9)]
    exact ⟨_, hr, hm.lim.trimL, by rw [val_trimL, hvo], Nat.le_trans (length_trimL _) (by omega), hle3⟩
  have hui := ha.getD i
  simp (maxSteps := 1000000) (disch := first | exact sd | fail) only [go_sem, Nat.reduceAdd, Nat.reduceSub, Nat.reduceLeDiff, ↓reduceIte, decide_eq_true_eq, if_true, if_false, Bool.false_eq_true, Int.lt_irrefl, implies_true, true_and, and_true, eq_self, and_self, beq_self_eq_true, aw_drawn (id := 9), aw_drawn' (id := 9), h4, hx3.len T.i22, hx3.addr Tryz.underlying70 T.s50 T.z50, hx3.loadh T.r50,  hy3.len T.i22,  hy3.addr Tryz.underlying70 T.s50 T.z50,  hy3.loadh T.r50, Int.toNat_natCast]
  refine aw_loopJ (σ := Nat × Int × List Int) (fun s J => [sa, sb, J 2, J 3, .slice none 0 0, so, .int .i64 i, .int .u64 s.2.1, .int .i64 s.1, J 9, J 10, J 11, J 12, J 13, J 14, J 15, J 16, J 17, J 18, J 19, J 20, J 21, J 22, J 23, J 24, J 25, J 26, J 27, J 28, J 29, J 30, J 31, J 32, J 33, J 34, J 35, J 36, J 37, J 38, J 39, J 40, J 41, J 42, J 43, J 44, J 45, J 46, J 47, J 48, J 49, J 50, J 51, J 52, J 53, J 54, J 55, J 56, J 57, J 58, J 59, J 60, J 61, J 62, J 63, J 64, J 65, J 66, J 67]) (fun n s H4 => n = b.length - s.1 ∧ s.1 ≤ b.length ∧ Hle H H4 ∧ UO Tryz.prog H H4 so s.2.2 ∧ RowInv (a.getD i 0) b o s.2.2 i s.1 s.2.1) b.length (0, 0, o) rfl ⟨rfl, Nat.zero_le _, hle3, ho, RowInv.init hm.lim⟩ ?_
  rintro n2 ⟨k, c, o2⟩ J2 H4 ⟨rfl, hk, hle4, ho2, hr⟩
  simp only at hk ho2 hr
  have hx4 := hu.mono hle4
  have hy4 := hv.mono hle4
  have hrl := hr.len
  have hrc := hr.cb
  by_cases h5 : (k : Int) < b.length
  · have hvk := hb.getD k
    have hw := hr.lim.getD (i + k)
    have hmb := mul_bound hui hvk
    have hst := rowL_step hui hvk hw hrc
    have hstep := hr.step hui hb (by omega) (by omega)
    have w1 := wrap_u64' hmb.1 (by omega)
    have w2 := wrap_u64' (z := a.getD i 0 * b.getD k 0 + o2.getD (i + k) 0) (by omega) (by omega)
    have w3 := wrap_u64' hst.1 hst.2.1
    have w4 := wrap_u64' (z := a.getD i 0 * b.getD k 0 + o2.getD (i + k) 0 + c) (by omega) (by omega)
    have w5 : a.getD i 0 * b.getD k 0 + o2.getD (i + k) 0 + c = c + (a.getD i 0 * b.getD k 0 + o2.getD (i + k) 0) := by omega
    rw [w5] at w4
    obtain ⟨s1, s2, s3⟩ := ho2.store (o := i + k) (x := (c + (a.getD i 0 * b.getD k 0 + o2.getD (i + k) 0)) % 4294967296) hle4 (by omega)
    have hou := ho2.u
    have hia : ((i : Int) + (k : Int)).toNat = i + k := by omega
    simp (maxSteps := 1000000) (disch := first | exact sd | fail) only [go_sem, Nat.reduceAdd, Nat.reduceSub, Nat.reduceLeDiff, ↓reduceIte, decide_eq_true_eq, if_true, if_false, Bool.false_eq_true, Int.lt_irrefl, implies_true, true_and, and_true, eq_self, and_self, beq_self_eq_true, aw_drawn (id := 9), aw_drawn' (id := 9), h4, h5, hx4.len T.i22, hx4.addr Tryz.underlying70 T.s50 T.z50, hx4.loadh T.r50,  hy4.len T.i22,  hy4.addr Tryz.underlying70 T.s50 T.z50,  hy4.loadh T.r50,  hou.len T.i22,  hou.addr Tryz.underlying70 T.s50 T.z50,  hou.loadh T.r50, Int.toNat_natCast, hia, wrap_u64' hui.1 (Int.lt_trans hui.2 (by decide)), wrap_u64' hvk.1 (Int.lt_trans hvk.2 (by decide)), wrap_u64' hw.1 (Int.lt_trans hw.2 (by decide)), w1, w2, w3, w4, w5, wrap_u32, s1]
    exact IJ_intro (k := b.length - (k + 1)) (by omega) (k + 1, _, _) rfl ⟨rfl, (by first | omega | (dsimp only; omega)), s3, s2, hstep⟩
  · have hkx : k = b.length := by omega
    subst hkx
    have hcc : c % 4294967296 = c := by omega
    obtain ⟨s1, s2, s3⟩ := ho2.store (o := i + b.length) (x := c) hle4 (by omega)
    have hd := hr.done (by omega)
    rw [hd] at s2
    have hou := ho2.u
    have hia : ((i : Int) + (b.length : Int)).toNat = i + b.length := by omega
    simp (maxSteps := 1000000) (disch := first | exact sd | fail) only [go_sem, Nat.reduceAdd, Nat.reduceSub, Nat.reduceLeDiff, ↓reduceIte, decide_eq_true_eq, if_true, if_false, Bool.false_eq_true, Int.lt_irrefl, implies_true, true_and, and_true, eq_self, and_self, beq_self_eq_true, aw_drawn (id := 9), aw_drawn' (id := 9), h5, hy4.len T.i22, hy4.addr Tryz.underlying70 T.s50 T.z50, hy4.loadh T.r50,  hou.len T.i22,  hou.addr Tryz.underlying70 T.s50 T.z50,  hou.loadh T.r50, hia, hcc, wrap_u32, s1]
    exact IJ_intro (k := a.length - (i + 1)) (by omega) (i + 1, _) rfl ⟨rfl, (by first | omega | (dsimp only; omega)), s3, s2, hm.step ha hb (by omega)⟩
end Go.Abs

/- Sums, differences, opposites, which is greater. -/
set_option linter.unusedVariables false
set_option linter.unusedSimpArgs false
namespace Go.Abs
open Go Go.Proofs
set_option maxRecDepth 100000
set_option maxHeartbeats 4000000
set_option linter.unusedSimpArgs false

def pl55_6 : Plan := ⟨[0, 2], [(1, [2], []), (3, [], []), (4, [], [5])]⟩
def pl55_7 : Plan := ⟨[0, 2], [(1, [2], []), (3, [], []), (4, [], [5])]⟩
def pl60_1 : Plan := ⟨[0, 2], [(1, [2], []), (3, [], [4, 5])]⟩
def pl60_2 : Plan := ⟨[0, 2], [(1, [2], []), (3, [], [4, 5])]⟩
def pl61_1 : Plan := ⟨[0, 1], [(2, [0], []), (3, [], []), (4, [], [])]⟩
def pl66_1 : Plan := ⟨[0, 3], [(1, [3], [2]), (4, [], []), (5, [], []), (6, [], [])]⟩
theorem IN.setbox {H : Heap} {v : Value} {z : Int} (h : IN H v z) {b : Nat} {cs : List Value} (hg : H.get b = some (.row true 72 cs)) (o : AObj) : IN (H.set b o) v z := IA.setbox h hg o
theorem IN.form {H : Heap} {v : Value} {z : Int} (h : IN H v z) : ∃ sl, v = .agg ⟨[.bool (decide (z < 0)), sl]⟩ ∧ isSl sl = true ∧ U Tryz.prog H sl (limbs z.natAbs) := by
  obtain ⟨sl, h1, h2, h3⟩ := h
  exact ⟨sl, h1, h2.isSl, h2⟩
theorem IZ.form {H : Heap} {v : Value} {z : Int} {K : Nat} (h : IZ H v z K) : ∃ ng sl, v = .agg ⟨[.bool ng, sl]⟩ ∧ isSl sl = true := by
  obtain ⟨ng, l, ⟨sl, h1, h2, h3⟩, _, _⟩ := h
  exact ⟨ng, sl, h1, h2.isSl⟩
end Go.Abs

/- The document's: which limbs are more, sums, differences. -/
set_option linter.unusedVariables false
set_option linter.unusedSimpArgs false
namespace Go.Abs
open Go Go.Proofs
set_option maxRecDepth 100000
set_option maxHeartbeats 4000000
set_option linter.unusedSimpArgs false

theorem c159 {H : Heap} {sa sb : Value} {a b : List Int} (hu : U Tryz.prog H sa a) (hv : U Tryz.prog H sb b) (ha : Lim a) (hb : Lim b) (ta : Top a) (tb : Top b) (hl : a.length < 2 ^ 62) (hl2 : b.length < 2 ^ 62) : ACalls Tryz.prog 145 [sa, sb] H fun r H' => r = .int .i64 (sg (val a - val b)) ∧ H' = H := by
  refine ACalls.of_code T.hm (n := 39) Tryz.func145 rfl rfl rfl rfl ?_; simp only [List.replicate_succ, List.replicate_zero, List.cons_append, List.nil_append]
  by_cases h0 : a.length = b.length
  rotate_left
  · have h1 : (a.length : Int) ≠ (b.length : Int) := by omega
    have hs := sg_len ha hb ta tb h0
    by_cases h2 : (a.length : Int) < b.length
    · simp (maxSteps := 1000000) (disch := first | exact sd | fail) only [go_sem, Nat.reduceAdd, Nat.reduceSub, Nat.reduceLeDiff, ↓reduceIte, decide_eq_true_eq, if_true, if_false, Bool.false_eq_true, Int.lt_irrefl, implies_true, true_and, and_true, eq_self, and_self, beq_self_eq_true, aw_drawn (id := 8), aw_drawn' (id := 8), aw_drawn (id := 10), aw_drawn' (id := 10), hu.len T.i22, hu.addr Tryz.underlying70 T.s50 T.z50, hu.loadh T.r50,  hv.len T.i22,  hv.addr Tryz.underlying70 T.s50 T.z50,  hv.loadh T.r50, h1, h2, ne_eq, not_false_eq_true, not_true_eq_false]
      rw [← hs, sg, if_pos (by omega)]
    · simp (maxSteps := 1000000) (disch := first | exact sd | fail) only [go_sem, Nat.reduceAdd, Nat.reduceSub, Nat.reduceLeDiff, ↓reduceIte, decide_eq_true_eq, if_true, if_false, Bool.false_eq_true, Int.lt_irrefl, implies_true, true_and, and_true, eq_self, and_self, beq_self_eq_true, aw_drawn (id := 8), aw_drawn' (id := 8), aw_drawn (id := 10), aw_drawn' (id := 10), hu.len T.i22, hu.addr Tryz.underlying70 T.s50 T.z50, hu.loadh T.r50,  hv.len T.i22,  hv.addr Tryz.underlying70 T.s50 T.z50,  hv.loadh T.r50, h1, h2, ne_eq, not_false_eq_true, not_true_eq_false]
      rw [← hs, sg, if_neg (by omega), if_pos (by omega)]
  have h1 : (a.length : Int) = (b.length : Int) := by omega
  simp (maxSteps := 1000000) (disch := first | exact sd | fail) only [go_sem, Nat.reduceAdd, Nat.reduceSub, Nat.reduceLeDiff, ↓reduceIte, decide_eq_true_eq, if_true, if_false, Bool.false_eq_true, Int.lt_irrefl, implies_true, true_and, and_true, eq_self, and_self, beq_self_eq_true, aw_drawn (id := 8), aw_drawn' (id := 8), aw_drawn (id := 10), aw_drawn' (id := 10), hu.len T.i22, hu.addr Tryz.underlying70 T.s50 T.z50, hu.loadh T.r50,  hv.len T.i22,  hv.addr Tryz.underlying70 T.s50 T.z50,  hv.loadh T.r50, h1, ne_eq, not_false_eq_true, not_true_eq_false]
  rw [← h1]
  refine aw_loopJ (σ := Nat) (fun k J => [sa, sb, J 2, J 3, .int .i64 0, .int .i64 (k - 1), J 6, J 7, J 8, J 9, J 10, J 11, J 12, J 13, J 14, J 15, J 16, J 17, J 18, J 19, J 20, J 21, J 22, J 23, J 24, J 25, J 26, J 27, J 28, J 29, J 30, J 31, J 32, J 33, J 34, J 35, J 36, J 37, J 38, J 39, J 40]) (fun n k H1 => n = k ∧ H1 = H ∧ k ≤ a.length ∧ a.drop k = b.drop k) a.length a.length rfl ⟨rfl, rfl, Nat.le_refl _, by rw [List.drop_length, h0, List.drop_length]⟩ ?_
  rintro n k J H1 ⟨rfl, rfl, hk, hd⟩
  cases n with
  | zero =>
    simp (maxSteps := 1000000) (disch := first | exact sd | fail) only [go_sem, Nat.reduceAdd, Nat.reduceSub, Nat.reduceLeDiff, ↓reduceIte, decide_eq_true_eq, if_true, if_false, Bool.false_eq_true, Int.lt_irrefl, implies_true, true_and, and_true, eq_self, and_self, beq_self_eq_true, aw_drawn (id := 8), aw_drawn' (id := 8), aw_drawn (id := 10), aw_drawn' (id := 10), show ¬ (0 : Int) ≤ ((0 : Nat) : Int) - 1 by omega]
    rw [List.drop_zero, List.drop_zero] at hd
    subst hd
    rw [Int.sub_self]; rfl
  | succ k =>
    have e1 : (((k + 1 : Nat) : Int) - 1).toNat = k := by omega
    have hsat := fun h => sg_at ha hb h0 (k := k) (by omega) hd h
    by_cases h2 : a.getD k 0 < b.getD k 0
    · simp (maxSteps := 1000000) (disch := first | exact sd | fail) only [go_sem, Nat.reduceAdd, Nat.reduceSub, Nat.reduceLeDiff, ↓reduceIte, decide_eq_true_eq, if_true, if_false, Bool.false_eq_true, Int.lt_irrefl, implies_true, true_and, and_true, eq_self, and_self, beq_self_eq_true, aw_drawn (id := 8), aw_drawn' (id := 8), aw_drawn (id := 10), aw_drawn' (id := 10), show (0 : Int) ≤ ((k + 1 : Nat) : Int) - 1 by omega, hu.len T.i22, hu.addr Tryz.underlying70 T.s50 T.z50, hu.loadh T.r50,  hv.len T.i22,  hv.addr Tryz.underlying70 T.s50 T.z50,  hv.loadh T.r50, e1, h2]
      rw [← hsat (by omega), sg, if_pos (by omega)]
    · by_cases h3 : b.getD k 0 < a.getD k 0
      · simp (maxSteps := 1000000) (disch := first | exact sd | fail) only [go_sem, Nat.reduceAdd, Nat.reduceSub, Nat.reduceLeDiff, ↓reduceIte, decide_eq_true_eq, if_true, if_false, Bool.false_eq_true, Int.lt_irrefl, implies_true, true_and, and_true, eq_self, and_self, beq_self_eq_true, aw_drawn (id := 8), aw_drawn' (id := 8), aw_drawn (id := 10), aw_drawn' (id := 10), show (0 : Int) ≤ ((k + 1 : Nat) : Int) - 1 by omega, hu.len T.i22, hu.addr Tryz.underlying70 T.s50 T.z50, hu.loadh T.r50,  hv.len T.i22,  hv.addr Tryz.underlying70 T.s50 T.z50,  hv.loadh T.r50, e1, h2, h3]
        rw [← hsat (by omega), sg, if_neg (by omega), if_pos (by omega)]
      · simp (maxSteps := 1000000) (disch := first | exact sd | fail) only [go_sem, Nat.reduceAdd, Nat.reduceSub, Nat.reduceLeDiff, ↓reduceIte, decide_eq_true_eq, if_true, if_false, Bool.false_eq_true, Int.lt_irrefl, implies_true, true_and, and_true, eq_self, and_self, beq_self_eq_true, aw_drawn (id := 8), aw_drawn' (id := 8), aw_drawn (id := 10), aw_drawn' (id := 10), show (0 : Int) ≤ ((k + 1 : Nat) : Int) - 1 by omega, hu.len T.i22, hu.addr Tryz.underlying70 T.s50 T.z50, hu.loadh T.r50,  hv.len T.i22,  hv.addr Tryz.underlying70 T.s50 T.z50,  hv.loadh T.r50, e1, h2, h3]
        refine IJ_intro (k := k) (by omega) k ?_ ⟨rfl, rfl, by omega, ?_⟩
        · rw [show ((k + 1 : Nat) : Int) - 1 - 1 = (k : Int) - 1 by omega]; rfl
        · rw [drop_getD (by omega), drop_getD (a := b) (by omega), show a.getD k 0 = b.getD k 0 by omega, hd]
end Go.Abs
