/- Taking away, putting back, in place. -/
import Derived.Test.YtboekagofficpaaNe
import Derived.Test.YtboekagofficpaaZb
set_option linter.unusedVariables false
set_option linter.unusedSimpArgs false
namespace Go.Abs
open Go Go.Proofs
set_option maxRecDepth 100000
set_option maxHeartbeats 40000000
set_option linter.unusedSimpArgs false

/-- A part of a slice: from a place on, so many. -/
def View (su sub : Value) (i m : Nat) : Prop := ∃ b off n c c', su = .slice (some ⟨b, off, none⟩) n c ∧ sub = .slice (some ⟨b, off + i, none⟩) m c'
theorem View.len {P : Program} {su sub : Value} {i m : Nat} (h : View su sub i m) {t : TypeId} (ht : isSliceT P t = true) : aLen P t sub = some (.int .i64 m) := by
  obtain ⟨b, off, n, c, c', rfl, rfl⟩ := h
  simp [aLen, ht, goInt]
theorem View.addr {P : Program} {su sub : Value} {i m : Nat} (h : View su sub i m) {t e : TypeId} (ht : P.underlying t = some (.slice e)) (hs : szOf P e = 1) (hz : sized P e = true) {k : IntKind} {j : Int} (h0 : 0 ≤ j) (h1 : j < m) :
    aIndexAddr P t sub (.int k j) = some (.pointer (some (sadr su (i + j.toNat)))) := by
  obtain ⟨b, off, n, c, c', rfl, rfl⟩ := h
  simp [aIndexAddr, ht, h0, h1, hz, hs, sadr, sblk, soff, Nat.add_assoc]
theorem Ow.window {P : Program} {H0 H : Heap} {el t : TypeId} {sl : Value} {n : Nat} {cells : List Value} (h : Ow P H0 H 1 el sl n cells) (ht : P.underlying t = some (.slice el)) (hz : sized P el = true) (hs : szOf P el = 1) {k k' : IntKind} {i j : Nat} (hij : i < j) (hj : j ≤ n) :
    ∃ sub, aSlice P H t sl (some (.int k i)) (some (.int k' j)) none = some sub ∧ View sl sub i (j - i) := by
  cases h with
  | nil => omega
  | @row b off n c cs hg hb0 hb hc hl =>
    have e1 : aBound n n (some (.int k' j)) = some j := by simp only [aBound]; rw [if_pos ⟨by omega, by omega⟩]; rfl
    have e2 : aBound 0 j (some (.int k i)) = some i := by simp only [aBound]; rw [if_pos ⟨by omega, by omega⟩]; rfl
    rcases hc with rfl | ⟨h1, h2, h3⟩
    · refine ⟨.slice (some ⟨b, off + i, none⟩) (j - i) unk, ?_, b, off, n, unk, unk, rfl, rfl⟩
      cases i with
      | zero => simp only [aSlice, ht, hz, if_true, e1, e2]; rfl
      | succ i =>
        simp only [aSlice, ht, hz, if_true, e1, e2]
        rw [if_pos (by omega)]
        simp only [hg, hs, Nat.mul_one]
        rw [if_pos (.inr trivial)]
    · have e3 : aBound n c (some (.int k' j)) = some j := by simp only [aBound]; rw [if_pos ⟨by omega, by omega⟩]; rfl
      refine ⟨.slice (some ⟨b, off + i, none⟩) (j - i) (c - i), ?_, b, off, n, c, c - i, rfl, rfl⟩
      simp only [aSlice, ht, hz, if_true]
      rw [if_neg (by omega), if_pos h2]
      simp only [e3, e2, hs, Nat.mul_one, Option.map_some]
      rw [if_neg (by omega)]
theorem UO.window {H0 H : Heap} {su : Value} {u : List Int} (h : UO Try.prog H0 H su u) {k k' : IntKind} {i j : Nat} (hij : i < j) (hj : j ≤ u.length) :
    ∃ sub, aSlice Try.prog H 45 su (some (.int k i)) (some (.int k' j)) none = some sub ∧ View su sub i (j - i) := Ow.window h Try.underlying45 T.z50 T.s50 hij hj

/-- Nothing but one block has turned. -/
def Only (b : Nat) (H H' : Heap) : Prop := H'.next = H.next ∧ ∀ c, c ≠ b → H'.get c = H.get c
theorem Only.rfl {b : Nat} {H : Heap} : Only b H H := ⟨Eq.refl _, fun _ _ => Eq.refl _⟩
theorem Only.wr {H H' : Heap} {sl : Value} {o : Nat} {v : Value} (h : Only (sblk sl) H H') : Only (sblk sl) H (wr H' sl o v) := ⟨by rw [wr_next]; exact h.1, fun c hc => by rw [wr_ne hc]; exact h.2 c hc⟩
theorem UO.store2 {H0 H1 : Heap} {sl : Value} {l : List Int} {o : Nat} {x : Int} (h : UO Try.prog H0 H1 sl l) (ho : o < l.length) :
    aStore Try.prog H1 66 (.pointer (some (sadr sl o))) (.int .u32 x) = some (wr H1 sl o (.int .u32 x)) ∧ UO Try.prog H0 (wr H1 sl o (.int .u32 x)) sl (l.set o x) := by
  refine ⟨Ow.store h T.z50 T.s50 _root_.rfl _root_.rfl (by simpa using ho), ?_⟩
  have := Ow.wr h (v := .int .u32 x) (o := o) (by simpa using ho)
  unfold UO
  rw [List.length_set, List.map_set]
  exact this

theorem and_low {x : Int} (hx : 0 ≤ x ∧ x < 18446744073709551616) : aBits .and .u64 x 4294967295 = x % 4294967296 := by
  obtain ⟨a, rfl⟩ := Int.eq_ofNat_of_zero_le hx.1
  have h1 : (BitVec.ofInt 64 (a : Int)).toNat = a := by rw [BitVec.toNat_ofInt]; omega
  have h2 : (BitVec.ofInt 64 (4294967295 : Int)).toNat = 2 ^ 32 - 1 := by decide
  show IntKind.u64.wrap (((BitVec.ofInt 64 (a : Int)) &&& (BitVec.ofInt 64 4294967295)).toNat : Int) = _
  rw [BitVec.toNat_and, h1, h2, Nat.and_two_pow_sub_one_eq_mod, wrap_u64]
  omega

theorem c211 {H0 H : Heap} {su sub sv : Value} {u v : List Int} {i m : Nat} {g : Int} (hu : UO Try.prog H0 H su u) (hw : View su sub i m) (hm : i + m ≤ u.length) (lu : Lim u) (lv : Lim v) (hg : 0 ≤ g ∧ g < 4294967296) (hl : u.length ≤ 2 ^ 42) (hl2 : v.length ≤ 2 ^ 42)
    (hv : ∀ H', Only (sblk su) H H' → U Try.prog H' sv v) :
    ACalls Try.prog 84 [sub, sv, .int .u64 g] H fun r H' => r = .bool (decide ((takeL g ((u.drop i).take m) v 0).2 ≠ 0)) ∧ UO Try.prog H0 H' su (u.take i ++ (takeL g ((u.drop i).take m) v 0).1 ++ u.drop (i + m)) ∧ Only (sblk su) H H' := by
  rw [takeL_zip]
  refine ACalls.of_code T.hm (n := 46) Try.func84 rfl rfl rfl rfl ?_; simp only [List.replicate_succ, List.replicate_zero, List.cons_append, List.nil_append]
  simp (maxSteps := 1000000) (disch := first | exact sd | fail) only [go_sem, Nat.reduceAdd, Nat.reduceSub, Nat.reduceLeDiff, ↓reduceIte, decide_eq_true_eq, if_true, if_false, Bool.false_eq_true, Int.lt_irrefl, implies_true, true_and, and_true, eq_self, and_self, beq_self_eq_true, hw.len T.i22]
  refine aw_loopJ (σ := Nat × Int × List Int) (fun s J => [sub, sv, .int .u64 g, J 3, J 4, J 5, .bool false, .int .u64 s.2.1, J 8, J 9, sub, .int .i64 m, .int .i64 s.1, J 13, J 14, J 15, J 16, J 17, J 18, J 19, J 20, J 21, J 22, J 23, J 24, J 25, J 26, J 27, J 28, J 29, J 30, J 31, J 32, J 33, J 34, J 35, J 36, J 37, J 38, J 39, J 40, J 41, J 42, J 43, J 44, J 45, J 46, J 47, J 48]) (fun n s H1 => n = m - s.1 ∧ s.1 ≤ m ∧ (0 ≤ s.2.1 ∧ s.2.1 ≤ 4294967296) ∧ UO Try.prog H0 H1 su s.2.2 ∧ Only (sblk su) H H1 ∧ ZipInv (fTake g) u v s.2.2 i m s.1 s.2.1) m (0, 0, u) _root_.rfl ⟨_root_.rfl, Nat.zero_le _, (by first | omega | (dsimp only; omega)), hu, Only.rfl, ZipInv.init⟩ ?_
  rintro n ⟨k, c, o⟩ J H1 ⟨rfl, hk, hc, ho, hon, hi⟩
  simp only at hk hc ho hon hi
  have hv1 := hv H1 hon
  have hou := ho.u
  have hol := hi.len
  by_cases h4 : (k : Int) < m
  rotate_left
  · have hkm : k = m := by omega
    subst hkm
    obtain ⟨d1, d2⟩ := hi.done hm
    rw [d1] at ho
    by_cases hc0 : c = 0
    · simp (maxSteps := 1000000) (disch := first | exact sd | fail) only [go_sem, Nat.reduceAdd, Nat.reduceSub, Nat.reduceLeDiff, ↓reduceIte, decide_eq_true_eq, if_true, if_false, Bool.false_eq_true, Int.lt_irrefl, implies_true, true_and, and_true, eq_self, and_self, beq_self_eq_true, h4, hc0, ne_eq, not_true_eq_false]
      rw [hc0] at d2
      exact ⟨by rw [← d2]; simp, ho, hon⟩
    · simp (maxSteps := 1000000) (disch := first | exact sd | fail) only [go_sem, Nat.reduceAdd, Nat.reduceSub, Nat.reduceLeDiff, ↓reduceIte, decide_eq_true_eq, if_true, if_false, Bool.false_eq_true, Int.lt_irrefl, implies_true, true_and, and_true, eq_self, and_self, beq_self_eq_true, h4, hc0, ne_eq, not_false_eq_true]
      exact ⟨by rw [← d2]; simp [hc0], ho, hon⟩
  have hxk := lu.getD (i + k)
  have hyk := lv.getD k
  have hgo := hi.get
  have hst := take_step hg hc hyk
  have hz := hi.step (by omega) hm
  simp only [fTake] at hz
  have f0 := wrap_u64' hxk.1 (Int.lt_trans hxk.2 (by decide))
  have f1 := wrap_u64' hyk.1 (Int.lt_trans hyk.2 (by decide))
  have hmb := mul_bound hyk hg
  have f2 := wrap_u64' (z := v.getD k 0 * g) hmb.1 (by omega)
  have f3 := wrap_u64' (z := c + v.getD k 0 * g) (by omega) (by omega)
  have f4 := and_low (x := c + v.getD k 0 * g) ⟨by omega, by omega⟩
  obtain ⟨w1, w2⟩ := wrap_sub hxk (y := (c + v.getD k 0 * g) % 4294967296) (by omega)
  have hcb : 0 ≤ (c + v.getD k 0 * g) / 4294967296 + (if u.getD (i + k) 0 < (c + v.getD k 0 * g) % 4294967296 then 1 else 0) ∧ (c + v.getD k 0 * g) / 4294967296 + (if u.getD (i + k) 0 < (c + v.getD k 0 * g) % 4294967296 then 1 else 0) ≤ 4294967296 := by constructor <;> split <;> omega
  have f5 := wrap_u64' hcb.1 (Int.lt_of_le_of_lt hcb.2 (by decide))
  obtain ⟨s1, s2⟩ := ho.store2 (o := i + k) (x := (u.getD (i + k) 0 - (c + v.getD k 0 * g) % 4294967296) % 4294967296) (by omega)
  by_cases h5 : (k : Int) < v.length
  · simp (maxSteps := 1000000) (disch := first | exact sd | fail) only [go_sem, Nat.reduceAdd, Nat.reduceSub, Nat.reduceLeDiff, ↓reduceIte, decide_eq_true_eq, if_true, if_false, Bool.false_eq_true, Int.lt_irrefl, implies_true, true_and, and_true, eq_self, and_self, beq_self_eq_true, h4, h5, hw.len T.i22, hw.addr Try.underlying45 T.s50 T.z50, hou.loadh T.r50, hv1.len T.i22, hv1.addr Try.underlying45 T.s50 T.z50, hv1.loadh T.r50, Int.toNat_natCast, hgo, f0, f1, f2, f3, f4]
    refine e151.mono ?_
    rintro _ _ ⟨rfl, rfl⟩
    rw [w1]
    simp (maxSteps := 1000000) (disch := first | exact sd | fail) only [go_sem, Nat.reduceAdd, Nat.reduceSub, Nat.reduceLeDiff, ↓reduceIte, decide_eq_true_eq, if_true, if_false, Bool.false_eq_true, Int.lt_irrefl, implies_true, true_and, and_true, eq_self, and_self, beq_self_eq_true, hw.addr Try.underlying45 T.s50 T.z50, Int.toNat_natCast, s1, w2, f5]
    exact IJ_intro (k := m - (k + 1)) (by omega) (k + 1, (c + v.getD k 0 * g) / 4294967296 + (if u.getD (i + k) 0 < (c + v.getD k 0 * g) % 4294967296 then 1 else 0), _) _root_.rfl ⟨_root_.rfl, (by first | omega | (dsimp only; omega)), hcb, s2, hon.wr, hz⟩
  · have hy0 : v.getD k 0 = 0 := getD_none (by omega)
    rw [hy0, Int.zero_mul, Int.add_zero] at f4 w1 w2 hcb f5 s1 s2 hz
    simp (maxSteps := 1000000) (disch := first | exact sd | fail) only [go_sem, Nat.reduceAdd, Nat.reduceSub, Nat.reduceLeDiff, ↓reduceIte, decide_eq_true_eq, if_true, if_false, Bool.false_eq_true, Int.lt_irrefl, implies_true, true_and, and_true, eq_self, and_self, beq_self_eq_true, h4, h5, hw.len T.i22, hw.addr Try.underlying45 T.s50 T.z50, hou.loadh T.r50, hv1.len T.i22, hv1.addr Try.underlying45 T.s50 T.z50, hv1.loadh T.r50, Int.toNat_natCast, hgo, f0, f4]
    refine e151.mono ?_
    rintro _ _ ⟨rfl, rfl⟩
    rw [w1]
    simp (maxSteps := 1000000) (disch := first | exact sd | fail) only [go_sem, Nat.reduceAdd, Nat.reduceSub, Nat.reduceLeDiff, ↓reduceIte, decide_eq_true_eq, if_true, if_false, Bool.false_eq_true, Int.lt_irrefl, implies_true, true_and, and_true, eq_self, and_self, beq_self_eq_true, hw.addr Try.underlying45 T.s50 T.z50, Int.toNat_natCast, s1, w2, f5]
    exact IJ_intro (k := m - (k + 1)) (by omega) (k + 1, c / 4294967296 + (if u.getD (i + k) 0 < c % 4294967296 then 1 else 0), _) _root_.rfl ⟨_root_.rfl, (by first | omega | (dsimp only; omega)), hcb, s2, hon.wr, hz⟩

theorem c212 {H0 H : Heap} {su sub sv : Value} {u v : List Int} {i m : Nat} (hu : UO Try.prog H0 H su u) (hw : View su sub i m) (hm : i + m ≤ u.length) (lu : Lim u) (lv : Lim v) (hl : u.length ≤ 2 ^ 42) (hl2 : v.length ≤ 2 ^ 42)
    (hv : ∀ H', Only (sblk su) H H' → U Try.prog H' sv v) :
    ACalls Try.prog 85 [sub, sv] H fun r H' => r = .tuple ⟨[]⟩ ∧ UO Try.prog H0 H' su (u.take i ++ (giveL ((u.drop i).take m) v 0).1 ++ u.drop (i + m)) ∧ Only (sblk su) H H' := by
  rw [giveL_zip]
  refine ACalls.of_code T.hm (n := 35) Try.func85 rfl rfl rfl rfl ?_; simp only [List.replicate_succ, List.replicate_zero, List.cons_append, List.nil_append]
  simp (maxSteps := 1000000) (disch := first | exact sd | fail) only [go_sem, Nat.reduceAdd, Nat.reduceSub, Nat.reduceLeDiff, ↓reduceIte, decide_eq_true_eq, if_true, if_false, Bool.false_eq_true, Int.lt_irrefl, implies_true, true_and, and_true, eq_self, and_self, beq_self_eq_true, hw.len T.i22]
  refine aw_loopJ (σ := Nat × Int × List Int) (fun s J => [sub, sv, J 2, J 3, .int .u64 s.2.1, J 5, sub, .int .i64 m, .int .i64 s.1, J 9, J 10, J 11, J 12, J 13, J 14, J 15, J 16, J 17, J 18, J 19, J 20, J 21, J 22, J 23, J 24, J 25, J 26, J 27, J 28, J 29, J 30, J 31, J 32, J 33, J 34, J 35, J 36]) (fun n s H1 => n = m - s.1 ∧ s.1 ≤ m ∧ (0 ≤ s.2.1 ∧ s.2.1 ≤ 1) ∧ UO Try.prog H0 H1 su s.2.2 ∧ Only (sblk su) H H1 ∧ ZipInv fGive u v s.2.2 i m s.1 s.2.1) m (0, 0, u) _root_.rfl ⟨_root_.rfl, Nat.zero_le _, (by first | omega | (dsimp only; omega)), hu, Only.rfl, ZipInv.init⟩ ?_
  rintro n ⟨k, c, o⟩ J H1 ⟨rfl, hk, hc, ho, hon, hi⟩
  simp only at hk hc ho hon hi
  have hv1 := hv H1 hon
  have hou := ho.u
  have hol := hi.len
  by_cases h4 : (k : Int) < m
  rotate_left
  · have hkm : k = m := by omega
    subst hkm
    obtain ⟨d1, d2⟩ := hi.done hm
    rw [d1] at ho
    simp (maxSteps := 1000000) (disch := first | exact sd | fail) only [go_sem, Nat.reduceAdd, Nat.reduceSub, Nat.reduceLeDiff, ↓reduceIte, decide_eq_true_eq, if_true, if_false, Bool.false_eq_true, Int.lt_irrefl, implies_true, true_and, and_true, eq_self, and_self, beq_self_eq_true, h4]
    exact ⟨ho, hon⟩
  have hxk := lu.getD (i + k)
  have hyk := lv.getD k
  have hgo := hi.get
  have hz := hi.step (by omega) hm
  simp only [fGive] at hz
  have f0 := wrap_u64' hxk.1 (Int.lt_trans hxk.2 (by decide))
  have f1 := wrap_u64' hyk.1 (Int.lt_trans hyk.2 (by decide))
  have f2 := wrap_u64' (z := c + u.getD (i + k) 0) (by omega) (by omega)
  have f3 := wrap_u64' (z := c + u.getD (i + k) 0 + v.getD k 0) (by omega) (by omega)
  obtain ⟨s1, s2⟩ := ho.store2 (o := i + k) (x := (c + u.getD (i + k) 0 + v.getD k 0) % 4294967296) (by omega)
  by_cases h5 : (k : Int) < v.length
  · simp (maxSteps := 1000000) (disch := first | exact sd | fail) only [go_sem, Nat.reduceAdd, Nat.reduceSub, Nat.reduceLeDiff, ↓reduceIte, decide_eq_true_eq, if_true, if_false, Bool.false_eq_true, Int.lt_irrefl, implies_true, true_and, and_true, eq_self, and_self, beq_self_eq_true, h4, h5, hw.len T.i22, hw.addr Try.underlying45 T.s50 T.z50, hou.loadh T.r50, hv1.len T.i22, hv1.addr Try.underlying45 T.s50 T.z50, hv1.loadh T.r50, Int.toNat_natCast, hgo, f0, f1, f2, f3]
    refine e151.mono ?_
    rintro _ _ ⟨rfl, rfl⟩
    simp (maxSteps := 1000000) (disch := first | exact sd | fail) only [go_sem, Nat.reduceAdd, Nat.reduceSub, Nat.reduceLeDiff, ↓reduceIte, decide_eq_true_eq, if_true, if_false, Bool.false_eq_true, Int.lt_irrefl, implies_true, true_and, and_true, eq_self, and_self, beq_self_eq_true, hw.addr Try.underlying45 T.s50 T.z50, Int.toNat_natCast, s1]
    exact IJ_intro (k := m - (k + 1)) (by omega) (k + 1, (c + u.getD (i + k) 0 + v.getD k 0) / 4294967296, _) _root_.rfl ⟨_root_.rfl, (by first | omega | (dsimp only; omega)), (by first | omega | (dsimp only; omega)), s2, hon.wr, hz⟩
  · have hy0 : v.getD k 0 = 0 := getD_none (by omega)
    rw [hy0, Int.add_zero] at s1 s2 hz
    simp (maxSteps := 1000000) (disch := first | exact sd | fail) only [go_sem, Nat.reduceAdd, Nat.reduceSub, Nat.reduceLeDiff, ↓reduceIte, decide_eq_true_eq, if_true, if_false, Bool.false_eq_true, Int.lt_irrefl, implies_true, true_and, and_true, eq_self, and_self, beq_self_eq_true, h4, h5, hw.len T.i22, hw.addr Try.underlying45 T.s50 T.z50, hou.loadh T.r50, hv1.len T.i22, hv1.addr Try.underlying45 T.s50 T.z50, hv1.loadh T.r50, Int.toNat_natCast, hgo, f0, f2]
    refine e151.mono ?_
    rintro _ _ ⟨rfl, rfl⟩
    simp (maxSteps := 1000000) (disch := first | exact sd | fail) only [go_sem, Nat.reduceAdd, Nat.reduceSub, Nat.reduceLeDiff, ↓reduceIte, decide_eq_true_eq, if_true, if_false, Bool.false_eq_true, Int.lt_irrefl, implies_true, true_and, and_true, eq_self, and_self, beq_self_eq_true, hw.addr Try.underlying45 T.s50 T.z50, Int.toNat_natCast, s1]
    exact IJ_intro (k := m - (k + 1)) (by omega) (k + 1, (c + u.getD (i + k) 0) / 4294967296, _) _root_.rfl ⟨_root_.rfl, (by first | omega | (dsimp only; omega)), (by first | omega | (dsimp only; omega)), s2, hon.wr, hz⟩
end Go.Abs
