/- Dividing limbs by limbs. -/
import Derived.Test.YtboekagofficpaaX1
import Derived.Test.YtboekagofficpaaZb
set_option linter.unusedVariables false
set_option linter.unusedSimpArgs false
namespace Go.Abs
open Go Go.Proofs
set_option maxRecDepth 100000
set_option maxHeartbeats 40000000
set_option linter.unusedSimpArgs false

def pl147_4 : Plan := ⟨[0, 1, 3, 4, 6, 7], [(2, [], []), (5, [], [8, 9, 10])]⟩
theorem shl32_n {n : Nat} {x : Int} (hx : 0 ≤ x * 2 ^ n ∧ x * 2 ^ n < 4294967296) (hn : n < 32) : x * 2 ^ (min n 32) % 4294967296 = x * 2 ^ n := by
  rw [show min n 32 = n by omega]; omega


theorem c147 {H : Heap} {sa sb : Value} {a b : List Int} (hu : U Try.prog H sa a) (hv : U Try.prog H sb b) (ha : Lim a) (hb : Lim b) (hk : 2 ≤ b.length) (hkl : b.length ≤ a.length) (hl : a.length ≤ 2 ^ 40) (tb : b.getD (b.length - 1) 0 ≠ 0) :
    ACalls Try.prog 81 [sa, sb] H fun r H' => ∃ s t l m, r = .tuple ⟨[s, t]⟩ ∧ U Try.prog H' s l ∧ U Try.prog H' t m ∧ Lim l ∧ Lim m ∧ val l = val a / val b ∧ val m = val a % val b ∧ l.length ≤ a.length + 1 ∧ m.length ≤ a.length + 1 ∧ Hle H H' := by
  have htb := hb.getD (b.length - 1)
  generalize hT : b.getD (b.length - 1) 0 = tp at *
  refine ACalls.of_code T.hm (n := 145) Try.func81 rfl rfl rfl rfl ?_; simp only [List.replicate_succ, List.replicate_zero, List.cons_append, List.nil_append]
  simp (maxSteps := 1000000) (disch := first | exact sd | fail) only [go_sem, Nat.reduceAdd, Nat.reduceSub, Nat.reduceLeDiff, ↓reduceIte, decide_eq_true_eq, if_true, if_false, Bool.false_eq_true, Int.lt_irrefl, implies_true, true_and, and_true, eq_self, and_self, beq_self_eq_true, aw_plan (id := 4) pl147_4, pl147_4, aw_drawn (id := 7), aw_drawn' (id := 7), aw_drawn (id := 11), aw_drawn' (id := 11), aw_drawn (id := 12), aw_drawn' (id := 12)]
  refine aw_loopJ (σ := Nat) (fun n J => [sa, sb, J 2, J 3, .slice none 0 0, .slice none 0 0, .int .i64 n, J 7, J 8, J 9, J 10, J 11, J 12, J 13, J 14, J 15, J 16, J 17, J 18, J 19, J 20, J 21, J 22, J 23, J 24, J 25, J 26, J 27, J 28, J 29, J 30, J 31, J 32, J 33, J 34, J 35, J 36, J 37, J 38, J 39, J 40, J 41, J 42, J 43, J 44, J 45, J 46, J 47, J 48, J 49, J 50, J 51, J 52, J 53, J 54, J 55, J 56, J 57, J 58, J 59, J 60, J 61, J 62, J 63, J 64, J 65, J 66, J 67, J 68, J 69, J 70, J 71, J 72, J 73, J 74, J 75, J 76, J 77, J 78, J 79, J 80, J 81, J 82, J 83, J 84, J 85, J 86, J 87, J 88, J 89, J 90, J 91, J 92, J 93, J 94, J 95, J 96, J 97, J 98, J 99, J 100, J 101, J 102, J 103, J 104, J 105, J 106, J 107, J 108, J 109, J 110, J 111, J 112, J 113, J 114, J 115, J 116, J 117, J 118, J 119, J 120, J 121, J 122, J 123, J 124, J 125, J 126, J 127, J 128, J 129, J 130, J 131, J 132, J 133, J 134, J 135, J 136, J 137, J 138, J 139, J 140, J 141, J 142, J 143, J 144, J 145, J 146]) (fun m n H1 => m = 32 - n ∧ n < 32 ∧ H1 = H ∧ tp * 2 ^ n < 4294967296) 32 0 rfl ⟨rfl, by omega, rfl, by simpa using htb.2⟩ ?_
  rintro m n J H1 ⟨rfl, hn, rfl, hT2⟩
  have h2n := two_pow hn
  have hT0 : 0 ≤ tp * 2 ^ n := Int.mul_nonneg htb.1 (by omega)
  have f0 := shl32_n ⟨hT0, hT2⟩ hn
  have i0 : ((b.length : Int) - 1).toNat = b.length - 1 := by omega
  by_cases h0 : tp * 2 ^ n / 2147483648 = 0
  · simp (maxSteps := 1000000) (disch := first | exact sd | fail) only [go_sem, Nat.reduceAdd, Nat.reduceSub, Nat.reduceLeDiff, ↓reduceIte, decide_eq_true_eq, if_true, if_false, Bool.false_eq_true, Int.lt_irrefl, implies_true, true_and, and_true, eq_self, and_self, beq_self_eq_true, aw_plan (id := 4) pl147_4, pl147_4, aw_drawn (id := 7), aw_drawn' (id := 7), aw_drawn (id := 11), aw_drawn' (id := 11), aw_drawn (id := 12), aw_drawn' (id := 12), hv.len T.i22, hv.addr Try.underlying45 T.s50 T.z50, hv.loadh T.r50, i0, hT, bin_shl, Int.toNat_natCast, wrap_u32, f0, h0]
    have e : tp * 2 ^ (n + 1) = tp * 2 ^ n * 2 := by rw [Int.pow_succ, Int.mul_assoc]
    have hn1 : n + 1 < 32 := by
      rcases Nat.lt_or_ge (n + 1) 32 with h | h
      · exact h
      · exfalso
        have hn31 : n = 31 := by omega
        subst hn31
        have : tp * 2147483648 < 2147483648 := by
          have e3 : (2 : Int) ^ 31 = 2147483648 := by decide
          rw [e3] at h0 hT2
          omega
        omega
    exact IJ_intro (k := 32 - (n + 1)) (by omega) (n + 1) rfl ⟨rfl, hn1, rfl, by rw [e]; omega⟩
  simp (maxSteps := 1000000) (disch := first | exact sd | fail) only [go_sem, Nat.reduceAdd, Nat.reduceSub, Nat.reduceLeDiff, ↓reduceIte, decide_eq_true_eq, if_true, if_false, Bool.false_eq_true, Int.lt_irrefl, implies_true, true_and, and_true, eq_self, and_self, beq_self_eq_true, aw_plan (id := 4) pl147_4, pl147_4, aw_drawn (id := 7), aw_drawn' (id := 7), aw_drawn (id := 11), aw_drawn' (id := 11), aw_drawn (id := 12), aw_drawn' (id := 12), hv.len T.i22, hv.addr Try.underlying45 T.s50 T.z50, hv.loadh T.r50, i0, hT, bin_shl, Int.toNat_natCast, wrap_u32, f0, h0, aw_plan (id := 4) ⟨[0, 1, 3, 4, 6, 7], [(2, [], []), (5, [], [8, 9, 10])]⟩]
  refine (c210 hu ha hn (by omega)).mono ?_
  rintro su H2 ⟨u, ou, lu, vu, ul, h2⟩
  simp (maxSteps := 1000000) (disch := first | exact sd | fail) only [go_sem, Nat.reduceAdd, Nat.reduceSub, Nat.reduceLeDiff, ↓reduceIte, decide_eq_true_eq, if_true, if_false, Bool.false_eq_true, Int.lt_irrefl, implies_true, true_and, and_true, eq_self, and_self, beq_self_eq_true, aw_plan (id := 4) pl147_4, pl147_4, aw_drawn (id := 7), aw_drawn' (id := 7), aw_drawn (id := 11), aw_drawn' (id := 11), aw_drawn (id := 12), aw_drawn' (id := 12)]
  refine (c210 (hv.mono h2) hb hn (by omega)).mono ?_
  rintro sv0 H3 ⟨v0, ov0, lv0, vv0, vl0, h3⟩
  have hq3 : Hle H1 H3 := h2.trans h3
  have hv3 := hv.mono hq3
  obtain ⟨vv, vt, vlen⟩ := norm_top (q := 2 ^ (32 - n)) hb lv0 rfl (by omega) h2n.1 (by rw [← Int.pow_add, show n + (32 - n) = 32 by omega]; rfl) vv0 vl0 (by rw [hT]; omega) (by rw [hT]; exact hT2)
  obtain ⟨sv, e1, ov, eb, eo⟩ := ov0.upto (k := .i64) (i := b.length) (by omega)
  have lv := lv0.take b.length
  generalize v0.take b.length = v at *
  have ou3 : UO Try.prog H1 H3 su u := Ow.mono ou h3
  have bsu := Ow.blk ou (by omega)
  have bsv := Ow.blk ov (by omega)
  have hQ : ((u.length : Int) - (b.length : Int)).toNat = u.length - b.length := by omega
  have hkv : (v.length : Int) = b.length := by omega
  simp (maxSteps := 1000000) (disch := first | exact sd | fail) only [go_sem, Nat.reduceAdd, Nat.reduceSub, Nat.reduceLeDiff, ↓reduceIte, decide_eq_true_eq, if_true, if_false, Bool.false_eq_true, Int.lt_irrefl, implies_true, true_and, and_true, eq_self, and_self, beq_self_eq_true, aw_plan (id := 4) pl147_4, pl147_4, aw_drawn (id := 7), aw_drawn' (id := 7), aw_drawn (id := 11), aw_drawn' (id := 11), aw_drawn (id := 12), aw_drawn' (id := 12), hv3.len T.i22, hv3.addr Try.underlying45 T.s50 T.z50, hv3.loadh T.r50, e1, ov.u.len T.i22, ou3.u.len T.i22, hkv, show ¬ ((u.length : Int) - b.length) < 0 by omega, hQ, aMk_int]
  have oq := zeros_own (H := H3) (n := u.length - b.length) (by omega)
  generalize hsq : Value.slice (some ⟨H3.next, 0, none⟩) (u.length - b.length) (u.length - b.length) = sq at oq ⊢
  have bsq := Ow.blk oq
  have hvt := lv.getD (b.length - 1)
  have hvn := lv.getD (b.length - 2)
  have ft := wrap_u64' hvt.1 (Int.lt_trans hvt.2 (by decide))
  have fn := wrap_u64' hvn.1 (Int.lt_trans hvn.2 (by decide))
  have i2 : ((b.length : Int) - 2).toNat = b.length - 2 := by omega
  generalize htop : v.getD (b.length - 1) 0 = top at *
  generalize hnext : v.getD (b.length - 2) 0 = next at *
  simp (maxSteps := 1000000) (disch := first | exact sd | fail) only [go_sem, Nat.reduceAdd, Nat.reduceSub, Nat.reduceLeDiff, ↓reduceIte, decide_eq_true_eq, if_true, if_false, Bool.false_eq_true, Int.lt_irrefl, implies_true, true_and, and_true, eq_self, and_self, beq_self_eq_true, aw_plan (id := 4) pl147_4, pl147_4, aw_drawn (id := 7), aw_drawn' (id := 7), aw_drawn (id := 11), aw_drawn' (id := 11), aw_drawn (id := 12), aw_drawn' (id := 12), ov.u.len T.i22, ov.u.addr Try.underlying45 T.s50 T.z50, ov.u.loadh T.r50, ou3.u.len T.i22, i0, i2, htop, hnext, ft, fn]
  have hsbq : sblk sq = H3.next := by rw [← hsq]; rfl
  have hinit := DivInv.init (k := b.length) (V := val v) ⟨h2n.1, h2n.2⟩ ha rfl vlen lv hk (by rw [htop]; exact vt) hkl lu vu ul
  refine aw_loopJ (σ := Nat × List Int × List Int) (fun s J => [sa, sb, J 2, J 3, sq, .slice none 0 0, .int .i64 n, su, sv, .int .i64 b.length, .int .u64 top, .int .u64 next, .int .i64 (s.1 - 1), J 13, J 14, J 15, J 16, J 17, J 18, J 19, J 20, J 21, J 22, J 23, J 24, J 25, J 26, J 27, J 28, J 29, J 30, J 31, J 32, J 33, J 34, J 35, J 36, J 37, J 38, J 39, J 40, J 41, J 42, J 43, J 44, J 45, J 46, J 47, J 48, J 49, J 50, J 51, J 52, J 53, J 54, J 55, J 56, J 57, J 58, J 59, J 60, J 61, J 62, J 63, J 64, J 65, J 66, J 67, J 68, J 69, J 70, J 71, J 72, J 73, J 74, J 75, J 76, J 77, J 78, J 79, J 80, J 81, J 82, J 83, J 84, J 85, J 86, J 87, J 88, J 89, J 90, J 91, J 92, J 93, J 94, J 95, J 96, J 97, J 98, J 99, J 100, J 101, J 102, J 103, J 104, J 105, J 106, J 107, J 108, J 109, J 110, J 111, J 112, J 113, J 114, J 115, J 116, J 117, J 118, J 119, J 120, J 121, J 122, J 123, J 124, J 125, J 126, J 127, J 128, J 129, J 130, J 131, J 132, J 133, J 134, J 135, J 136, J 137, J 138, J 139, J 140, J 141, J 142, J 143, J 144, J 145, J 146]) (fun m s H4 => m = s.1 ∧ UO Try.prog H1 H4 su s.2.1 ∧ UO Try.prog H2 H4 sv v ∧ UO Try.prog H3 H4 sq s.2.2 ∧ Hle H1 H4 ∧ s.2.2.length = u.length - b.length ∧ DivInv (val a * 2 ^ n) (val v) b.length s.2.1 s.2.2 s.1) (u.length - b.length) (u.length - b.length, u, List.replicate (u.length - b.length) 0) (by rw [show ((u.length - b.length : Nat) : Int) = (u.length : Int) - b.length by omega]; rfl) ⟨rfl, Ow.mono ou3 (Hle.push0 _), Ow.mono ov (Hle.push0 _), oq, hq3.trans (Hle.push0 _), by simp, hinit⟩ ?_
  rintro m ⟨j, u4, q4⟩ J H4 ⟨rfl, ou4, ov4, oq4, hle4, hql, hi⟩
  simp only at ou4 oq4 hql hi
  have hul := hi.ulen
  have hVpos : 0 < val v := by
    have := val_cut (l := v) (k := b.length - 1) (by omega)
    have h1 := val_nonneg (lv.take (b.length - 1))
    have d1 : v.drop (b.length - 1) = [top] := by rw [drop_getD (by omega), List.drop_of_length_le (by omega), htop]
    rw [d1, val_one] at this
    have h2 : (4294967296 : Int) ^ (b.length - 1) * 1 ≤ 4294967296 ^ (b.length - 1) * top := Int.mul_le_mul_of_nonneg_left (by omega) (Int.le_of_lt (Int.pow_pos (by decide)))
    have h3 : (0 : Int) < 4294967296 ^ (b.length - 1) := Int.pow_pos (by decide)
    omega
  have hVk : val v ≤ 4294967296 ^ b.length := by
    have := val_lt_pow lv
    rw [vlen] at this
    omega
  cases m with
  | zero =>
    obtain ⟨d1, d2⟩ := hi.done hVpos
    obtain ⟨sm, e5, om, _, _⟩ := ou4.upto (k := .i64) (i := b.length) (by omega)
    simp (maxSteps := 1000000) (disch := first | exact sd | fail) only [go_sem, Nat.reduceAdd, Nat.reduceSub, Nat.reduceLeDiff, ↓reduceIte, decide_eq_true_eq, if_true, if_false, Bool.false_eq_true, Int.lt_irrefl, implies_true, true_and, and_true, eq_self, and_self, beq_self_eq_true, aw_plan (id := 4) pl147_4, pl147_4, aw_drawn (id := 7), aw_drawn' (id := 7), aw_drawn (id := 11), aw_drawn' (id := 11), aw_drawn (id := 12), aw_drawn' (id := 12), show ¬ (0 : Int) ≤ ((0 : Nat) : Int) - 1 by omega, e5]
    refine (c213 om.u (hi.ulim.take _) hn (by rw [List.length_take]; omega)).mono ?_
    rintro st H5 ⟨m, um, lm, vm, ml, h5⟩
    simp (maxSteps := 1000000) (disch := first | exact sd | fail) only [go_sem, Nat.reduceAdd, Nat.reduceSub, Nat.reduceLeDiff, ↓reduceIte, decide_eq_true_eq, if_true, if_false, Bool.false_eq_true, Int.lt_irrefl, implies_true, true_and, and_true, eq_self, and_self, beq_self_eq_true, aw_plan (id := 4) pl147_4, pl147_4, aw_drawn (id := 7), aw_drawn' (id := 7), aw_drawn (id := 11), aw_drawn' (id := 11), aw_drawn (id := 12), aw_drawn' (id := 12)]
    have hcut : val (u4.take b.length) = val u4 := by
      have e := val_cut (l := u4) (k := b.length) (by omega)
      have h1 := val_nonneg (hi.ulim.take b.length)
      have h2 := val_nonneg (hi.ulim.drop b.length)
      have h3 := hi.lt
      rw [List.drop_zero] at h3
      rcases Int.lt_or_le 0 (val (u4.drop b.length)) with h4 | h4
      · have h5 : (4294967296 : Int) ^ b.length * 1 ≤ 4294967296 ^ b.length * val (u4.drop b.length) := Int.mul_le_mul_of_nonneg_left h4 (Int.le_of_lt (Int.pow_pos (by decide)))
        omega
      · have h5 : val (u4.drop b.length) = 0 := by omega
        rw [h5, Int.mul_zero] at e
        omega
    refine ⟨sq, st, q4, m, rfl, oq4.u.mono h5, um, hi.qlim, lm, ?_, ?_, by omega, by rw [ml, List.length_take]; omega, hle4.trans h5⟩
    · rw [d1, vv, Int.mul_comm (val a), Int.mul_comm (val b), Int.mul_ediv_mul_of_pos _ _ h2n.1]
    · rw [vm, hcut, d2, vv, Int.mul_comm (val a), Int.mul_comm (val b), Int.mul_emod_mul_of_pos _ _ h2n.1, Int.mul_ediv_cancel_left _ (by omega)]
  | succ j =>
    have hjq := hi.le
    have hw := hi.win hk rfl vlen lv (by rw [htop]; exact vt)
    rw [htop, hnext] at hw
    have hu0 := hi.ulim.getD (j + b.length)
    have hu1 := hi.ulim.getD (j + b.length - 1)
    have hu2 := hi.ulim.getD (j + b.length - 2)
    have f00 := wrap_u64' hu0.1 (Int.lt_trans hu0.2 (by decide))
    have f01 := wrap_u64' hu1.1 (Int.lt_trans hu1.2 (by decide))
    have f02 := wrap_u64' hu2.1 (Int.lt_trans hu2.2 (by decide))
    have jj : ((j + 1 : Nat) : Int) - 1 = (j : Int) := by omega
    have j0 : ((j : Int) + (b.length : Int)).toNat = j + b.length := by omega
    have j1 : ((j : Int) + (b.length : Int) - 1).toNat = j + b.length - 1 := by omega
    have j2 : ((j : Int) + (b.length : Int) - 2).toNat = j + b.length - 2 := by omega
    generalize hx0 : u4.getD (j + b.length) 0 = u0 at *
    generalize hx1 : u4.getD (j + b.length - 1) 0 = u1 at *
    generalize hx2 : u4.getD (j + b.length - 2) 0 = u2 at *
    have g0 : u0 * 4294967296 % 18446744073709551616 = u0 * 4294967296 := by omega
    have g1 : aBits .or .u64 (u0 * 4294967296) u1 = u0 * 4294967296 + u1 := by rw [or_add32' hu1 hu0]; omega
    have hxl := hw.x_lt
    have htp := hw.top
    have hnx := hw.next
    generalize hX : u0 * 4294967296 + u1 = x at *
    have hx := hw.x
    generalize hW : val (u4.drop j) = W at *
    have g2 : IntKind.u64.wrap (x.tdiv top) = x / top := by rw [Int.tdiv_eq_ediv_of_nonneg hx, wrap_u64' (Int.ediv_nonneg hx (by omega)) (by have := Int.ediv_le_self top hx; omega)]
    have g3 : x.tmod top = x % top := Int.tmod_eq_emod_of_nonneg hx
    have hdm := Int.ediv_mul_add_emod x top
    have hm0 := Int.emod_nonneg x (show top ≠ 0 by omega)
    have hm1 := Int.emod_lt_of_pos x (show 0 < top by omega)
    have hd0 : 0 ≤ x / top := Int.ediv_nonneg hx (by omega)
    have hd1 : x / top ≤ 4294967297 := by
      have : x / top < 4294967298 := by
        rw [Int.ediv_lt_iff_lt_mul (by omega)]
        omega
      omega
    simp (maxSteps := 1000000) (disch := first | exact sd | fail) only [go_sem, Nat.reduceAdd, Nat.reduceSub, Nat.reduceLeDiff, ↓reduceIte, decide_eq_true_eq, if_true, if_false, Bool.false_eq_true, Int.lt_irrefl, implies_true, true_and, and_true, eq_self, and_self, beq_self_eq_true, aw_plan (id := 4) pl147_4, pl147_4, aw_drawn (id := 7), aw_drawn' (id := 7), aw_drawn (id := 11), aw_drawn' (id := 11), aw_drawn (id := 12), aw_drawn' (id := 12), jj, show (0 : Int) ≤ (j : Int) by omega, ou4.u.len T.i22, ou4.u.addr Try.underlying45 T.s50 T.z50, ou4.u.loadh T.r50, j0, j1, hx0, hx1, f00, f01, g0, g1, hX, g2, g3]
    obtain ⟨Q, hQ⟩ : ∃ Q : Exit → Tm → Heap → Prop, Q = fun e T' H' => e = .exit 4 ∧ H' = H4 ∧ ∃ g : Int, (fun J => [sa, sb, J 2, J 3, sq, .slice none 0 0, .int .i64 n, su, sv, .int .i64 b.length, .int .u64 top, .int .u64 next, .int .i64 j, J 13, .int .u64 g, J 15, J 16, J 17, J 18, J 19, J 20, J 21, J 22, J 23, J 24, J 25, J 26, J 27, J 28, J 29, J 30, J 31, J 32, J 33, J 34, J 35, J 36, J 37, J 38, J 39, J 40, J 41, J 42, J 43, J 44, J 45, J 46, J 47, J 48, J 49, J 50, J 51, J 52, J 53, J 54, J 55, J 56, J 57, J 58, J 59, J 60, J 61, J 62, J 63, J 64, J 65, J 66, J 67, J 68, J 69, J 70, J 71, J 72, J 73, J 74, J 75, J 76, J 77, J 78, J 79, J 80, J 81, J 82, J 83, J 84, J 85, J 86, J 87, J 88, J 89, J 90, J 91, J 92, J 93, J 94, J 95, J 96, J 97, J 98, J 99, J 100, J 101, J 102, J 103, J 104, J 105, J 106, J 107, J 108, J 109, J 110, J 111, J 112, J 113, J 114, J 115, J 116, J 117, J 118, J 119, J 120, J 121, J 122, J 123, J 124, J 125, J 126, J 127, J 128, J 129, J 130, J 131, J 132, J 133, J 134, J 135, J 136, J 137, J 138, J 139, J 140, J 141, J 142, J 143, J 144, J 145, J 146]) (fun i => T'.getD i undef) = T' ∧ 0 ≤ g ∧ g < 4294967296 ∧ W < (g + 1) * val v ∧ g * val v ≤ W + val v := ⟨_, rfl⟩
    refine aw_mono _ (Q := Q) ?_ ?_
    rotate_left
    · -- the guess
      refine aw_loopJ (σ := Int × Int) (fun s J => [sa, sb, J 2, J 3, sq, .slice none 0 0, .int .i64 n, su, sv, .int .i64 b.length, .int .u64 top, .int .u64 next, .int .i64 j, J 13, .int .u64 s.1, .int .u64 s.2, J 16, J 17, J 18, J 19, J 20, J 21, J 22, J 23, J 24, J 25, J 26, J 27, J 28, J 29, J 30, J 31, J 32, J 33, J 34, J 35, J 36, J 37, J 38, J 39, J 40, J 41, J 42, J 43, J 44, J 45, J 46, J 47, J 48, J 49, J 50, J 51, J 52, J 53, J 54, J 55, J 56, J 57, J 58, J 59, J 60, J 61, J 62, J 63, J 64, J 65, J 66, J 67, J 68, J 69, J 70, J 71, J 72, J 73, J 74, J 75, J 76, J 77, J 78, J 79, J 80, J 81, J 82, J 83, J 84, J 85, J 86, J 87, J 88, J 89, J 90, J 91, J 92, J 93, J 94, J 95, J 96, J 97, J 98, J 99, J 100, J 101, J 102, J 103, J 104, J 105, J 106, J 107, J 108, J 109, J 110, J 111, J 112, J 113, J 114, J 115, J 116, J 117, J 118, J 119, J 120, J 121, J 122, J 123, J 124, J 125, J 126, J 127, J 128, J 129, J 130, J 131, J 132, J 133, J 134, J 135, J 136, J 137, J 138, J 139, J 140, J 141, J 142, J 143, J 144, J 145, J 146]) (fun m s H' => m = s.1.toNat ∧ H' = H4 ∧ (0 ≤ s.1 ∧ s.1 ≤ 4294967297) ∧ (0 ≤ s.2 ∧ s.2 < 4294967296) ∧ s.1 * top + s.2 = x ∧ W < (s.1 + 1) * val v) (x / top).toNat (x / top, x % top) rfl ⟨rfl, rfl, ⟨hd0, hd1⟩, ⟨hm0, by dsimp only; omega⟩, hdm, hw.first (by show x < (x / top + 1) * top; rw [Int.add_mul, Int.one_mul]; omega) hd0⟩ ?_
      rintro m ⟨g, r⟩ J2 H' ⟨rfl, rfl, hg, hr, hgx, hlow⟩
      simp only at hg hr hgx hlow
      have less : W < g * val v → (1 ≤ g) := by
        intro h
        rcases Int.lt_or_le 0 g with h1 | h1
        · omega
        · exfalso
          have hg0 : g = 0 := by omega
          rw [hg0, Int.zero_mul] at h
          have := val_nonneg (hi.ulim.drop j)
          rw [hW] at this
          omega
      have k1 : IntKind.u64.wrap (r + top) = r + top := wrap_u64' (by omega) (by omega)
      by_cases c1 : 4294967296 ≤ g
      · have hWg : W < g * val v := by
          have := Int.mul_le_mul_of_nonneg_right c1 (Int.le_of_lt hVpos)
          have := hw.lt
          omega
        have hg1 := less hWg
        have k0 : IntKind.u64.wrap (g - 1) = g - 1 := wrap_u64' (by omega) (by omega)
        have hgx2 : (g - 1) * top + (r + top) = x := by rw [Int.sub_mul, Int.one_mul]; omega
        by_cases c3 : 4294967296 ≤ r + top
        · simp (maxSteps := 1000000) (disch := first | exact sd | fail) only [go_sem, Nat.reduceAdd, Nat.reduceSub, Nat.reduceLeDiff, ↓reduceIte, decide_eq_true_eq, if_true, if_false, Bool.false_eq_true, Int.lt_irrefl, implies_true, true_and, and_true, eq_self, and_self, beq_self_eq_true, aw_plan (id := 4) pl147_4, pl147_4, aw_drawn (id := 7), aw_drawn' (id := 7), aw_drawn (id := 11), aw_drawn' (id := 11), aw_drawn (id := 12), aw_drawn' (id := 12), c1, k0, k1, c3]
          have hdn := hw.done (g := g - 1) (by omega) (by omega) (by omega)
          rw [hQ]
          refine ⟨rfl, rfl, g - 1, rfl, by omega, ?_, by rw [Int.sub_add_cancel]; exact hWg, by omega⟩
          rcases Int.lt_or_le (g - 1) 4294967296 with h | h
          · exact h
          · exfalso
            have := Int.mul_le_mul_of_nonneg_right h (Int.le_of_lt hVpos)
            have := hw.lt
            omega
        · simp (maxSteps := 1000000) (disch := first | exact sd | fail) only [go_sem, Nat.reduceAdd, Nat.reduceSub, Nat.reduceLeDiff, ↓reduceIte, decide_eq_true_eq, if_true, if_false, Bool.false_eq_true, Int.lt_irrefl, implies_true, true_and, and_true, eq_self, and_self, beq_self_eq_true, aw_plan (id := 4) pl147_4, pl147_4, aw_drawn (id := 7), aw_drawn' (id := 7), aw_drawn (id := 11), aw_drawn' (id := 11), aw_drawn (id := 12), aw_drawn' (id := 12), c1, k0, k1, c3]
          exact IJ_intro (k := (g - 1).toNat) (by omega) (g - 1, r + top) rfl ⟨rfl, rfl, (by first | omega | (dsimp only; omega)), (by first | omega | (dsimp only; omega)), hgx2, by rw [Int.sub_add_cancel]; exact hWg⟩
      · have hgn := mul_bound (u := g) (v := next) (by omega) hnx
        have k2 : IntKind.u64.wrap (g * next) = g * next := wrap_u64' hgn.1 (by omega)
        have k3 : r * 4294967296 % 18446744073709551616 = r * 4294967296 := by omega
        have k4 : aBits .or .u64 (r * 4294967296) u2 = r * 4294967296 + u2 := by rw [or_add32' hu2 hr]; omega
        by_cases c2 : r * 4294967296 + u2 < g * next
        · have hWg : W < g * val v := hw.less (by rw [Int.mul_add, ← Int.mul_assoc]; omega) hg.1
          have hg1 := less hWg
          have k0 : IntKind.u64.wrap (g - 1) = g - 1 := wrap_u64' (by omega) (by omega)
          have hgx2 : (g - 1) * top + (r + top) = x := by rw [Int.sub_mul, Int.one_mul]; omega
          by_cases c3 : 4294967296 ≤ r + top
          · simp (maxSteps := 1000000) (disch := first | exact sd | fail) only [go_sem, Nat.reduceAdd, Nat.reduceSub, Nat.reduceLeDiff, ↓reduceIte, decide_eq_true_eq, if_true, if_false, Bool.false_eq_true, Int.lt_irrefl, implies_true, true_and, and_true, eq_self, and_self, beq_self_eq_true, aw_plan (id := 4) pl147_4, pl147_4, aw_drawn (id := 7), aw_drawn' (id := 7), aw_drawn (id := 11), aw_drawn' (id := 11), aw_drawn (id := 12), aw_drawn' (id := 12), c1, c2, k0, k1, k2, k3, k4, c3, ou4.u.len T.i22, ou4.u.addr Try.underlying45 T.s50 T.z50, ou4.u.loadh T.r50, j2, hx2, f02]
            have hdn := hw.done (g := g - 1) (by omega) (by omega) (by omega)
            rw [hQ]
            exact ⟨rfl, rfl, g - 1, rfl, by omega, by omega, by rw [Int.sub_add_cancel]; exact hWg, by omega⟩
          · simp (maxSteps := 1000000) (disch := first | exact sd | fail) only [go_sem, Nat.reduceAdd, Nat.reduceSub, Nat.reduceLeDiff, ↓reduceIte, decide_eq_true_eq, if_true, if_false, Bool.false_eq_true, Int.lt_irrefl, implies_true, true_and, and_true, eq_self, and_self, beq_self_eq_true, aw_plan (id := 4) pl147_4, pl147_4, aw_drawn (id := 7), aw_drawn' (id := 7), aw_drawn (id := 11), aw_drawn' (id := 11), aw_drawn (id := 12), aw_drawn' (id := 12), c1, c2, k0, k1, k2, k3, k4, c3, ou4.u.len T.i22, ou4.u.addr Try.underlying45 T.s50 T.z50, ou4.u.loadh T.r50, j2, hx2, f02]
            exact IJ_intro (k := (g - 1).toNat) (by omega) (g - 1, r + top) rfl ⟨rfl, rfl, (by first | omega | (dsimp only; omega)), (by first | omega | (dsimp only; omega)), hgx2, by rw [Int.sub_add_cancel]; exact hWg⟩
        · simp (maxSteps := 30000000) (disch := first | exact sd | fail) only [go_sem, Nat.reduceAdd, Nat.reduceSub, Nat.reduceLeDiff, ↓reduceIte, decide_eq_true_eq, if_true, if_false, Bool.false_eq_true, Int.lt_irrefl, implies_true, true_and, and_true, eq_self, and_self, beq_self_eq_true, aw_plan (id := 4) pl147_4, pl147_4, aw_drawn (id := 7), aw_drawn' (id := 7), aw_drawn (id := 11), aw_drawn' (id := 11), aw_drawn (id := 12), aw_drawn' (id := 12), c1, c2, k2, k3, k4, ou4.u.len T.i22, ou4.u.addr Try.underlying45 T.s50 T.z50, ou4.u.loadh T.r50, j2, hx2, f02]
          rw [hQ]
          exact ⟨rfl, rfl, g, rfl, hg.1, by omega, hlow, hw.near (by rw [Int.mul_add, ← Int.mul_assoc]; omega) (by omega)⟩
    · -- take away
      rintro e T' H' hq
      rw [hQ] at hq
      obtain ⟨rfl, rfl, g, hT', hg0, hgB, hlow, hhigh⟩ := hq
      rw [← hT']
      generalize (fun i => T'.getD i undef) = J2
      clear hT' hQ Q hw hx0 hx1 hx2 f00 f01 f02 g0 g1 g2 g3 hX hxl hx hdm hm0 hm1 hd0 hd1 hnx htp j1 j2 hvt hvn htop hnext ft fn h0 f0 hT0 hT2 htb hT j0
      have hwin := hi.window hVk
      rw [hW] at hwin
      have hgW : g = W / val v ∨ g = W / val v + 1 := by
        have h1 : W / val v < g + 1 := by rw [Int.ediv_lt_iff_lt_mul hVpos]; exact hlow
        have h2 : g - 1 ≤ W / val v := by rw [Int.le_ediv_iff_mul_le hVpos, Int.sub_mul, Int.one_mul]; omega
        omega
      have hq1 : W / val v * val v ≤ W := Int.ediv_mul_le _ (by omega)
      have hq2 : W < (W / val v + 1) * val v := Int.lt_ediv_add_one_mul_self _ hVpos
      generalize hqq : W / val v = qq at *
      have hVM : val v ≤ 4294967296 ^ (b.length + 1) := by rw [Int.pow_succ]; omega
      have lwin := (hi.ulim.drop j).take (b.length + 1)
      have hWM : W < 4294967296 ^ (b.length + 1) := by have := val_lt_pow lwin; rw [hwin.1, hwin.2] at this; exact this
      generalize hwl : (u4.drop j).take (b.length + 1) = uw at *
      have tv := takeL_val g uw v 0 lwin (by omega)
      have tl := takeL_lim g uw v 0
      have tn := takeL_len g uw v 0
      rw [hwin.1, hwin.2] at tv
      have to0 := val_nonneg tl
      have to1 := val_lt_pow tl
      rw [tn, hwin.2] at to1
      generalize ho1 : (takeL g uw v 0).1 = o1 at *
      generalize hc1 : (takeL g uw v 0).2 = c1 at *
      obtain ⟨sub, e17, hw17⟩ := ou4.window (k := .i64) (k' := .i64) (i := j) (j := j + b.length + 1) (by omega) (by omega)
      have ej : (j : Int) + b.length + 1 = ((j + b.length + 1 : Nat) : Int) := by omega
      have ew : j + b.length + 1 - j = b.length + 1 := by omega
      rw [ew] at hw17
      have nsv : sblk sv ≠ sblk su := by have := bsv; have := bsu; omega
      have nsq : sblk sq ≠ sblk su := by have := bsu; have := hq3.next; have := h2.next; have := h3.next; omega
      simp (maxSteps := 1000000) (disch := first | exact sd | fail) only [go_sem, Nat.reduceAdd, Nat.reduceSub, Nat.reduceLeDiff, ↓reduceIte, decide_eq_true_eq, if_true, if_false, Bool.false_eq_true, Int.lt_irrefl, implies_true, true_and, and_true, eq_self, and_self, beq_self_eq_true, aw_plan (id := 4) pl147_4, pl147_4, aw_drawn (id := 7), aw_drawn' (id := 7), aw_drawn (id := 11), aw_drawn' (id := 11), aw_drawn (id := 12), aw_drawn' (id := 12), ej, e17]
      refine (c211 ou4 hw17 (by omega) hi.ulim lv ⟨hg0, hgB⟩ (by omega) (by omega) (fun H' hon => UO.u (H0 := H2) (Ow.keep ov4 (fun b hb _ _ => hon.2 b (by rw [hb]; exact nsv)) (by rw [hon.1]; exact Nat.le_refl _)))).mono ?_
      rintro _ H5 ⟨rfl, ou5, on5⟩
      rw [hwl, ho1, hc1] at *
      have ov5 : UO Try.prog H2 H5 sv v := Ow.keep ov4 (fun b hb _ _ => on5.2 b (by rw [hb]; exact nsv)) (by rw [on5.1]; exact Nat.le_refl _)
      have oq5 : UO Try.prog H3 H5 sq q4 := Ow.keep oq4 (fun b hb _ _ => on5.2 b (by rw [hb]; exact nsq)) (by rw [on5.1]; exact Nat.le_refl _)
      have hle5 : Hle H1 H5 := ⟨by rw [on5.1]; exact hle4.next, fun c hc => by rw [on5.2 c (by have := bsu; omega)]; exact hle4.get c hc⟩
      have hsq1 : H1.next ≤ sblk sq := by have := hq3.next; omega
      have hqV : (qq + 1) * val v = qq * val v + val v := by rw [Int.add_mul, Int.one_mul]
      rcases hgW with hgq | hgq
      · obtain ⟨d1, d2⟩ := take_right hVM ⟨hq1, hq2⟩ hWM tv ⟨to0, to1⟩ hgq
        have d3 : decide (c1 ≠ 0) = false := by simp [d1]
        have hput := hi.put hVk tl (by omega) (d := g) (by rw [hW, hgq]; exact d2) (by omega) ⟨hg0, hgB⟩
        simp (maxSteps := 1000000) (disch := first | exact sd | fail) only [go_sem, Nat.reduceAdd, Nat.reduceSub, Nat.reduceLeDiff, ↓reduceIte, decide_eq_true_eq, if_true, if_false, Bool.false_eq_true, Int.lt_irrefl, implies_true, true_and, and_true, eq_self, and_self, beq_self_eq_true, aw_plan (id := 4) pl147_4, pl147_4, aw_drawn (id := 7), aw_drawn' (id := 7), aw_drawn (id := 11), aw_drawn' (id := 11), aw_drawn (id := 12), aw_drawn' (id := 12), d3]
        refine e151.mono ?_
        rintro _ _ ⟨rfl, rfl⟩
        have f9 : g % 4294967296 = g := by omega
        obtain ⟨s1, s2⟩ := UO.store2 (x := g) oq5 (show j < q4.length by omega)
        have hqu := oq5.u
        simp (maxSteps := 1000000) (disch := first | exact sd | fail) only [go_sem, Nat.reduceAdd, Nat.reduceSub, Nat.reduceLeDiff, ↓reduceIte, decide_eq_true_eq, if_true, if_false, Bool.false_eq_true, Int.lt_irrefl, implies_true, true_and, and_true, eq_self, and_self, beq_self_eq_true, aw_plan (id := 4) pl147_4, pl147_4, aw_drawn (id := 7), aw_drawn' (id := 7), aw_drawn (id := 11), aw_drawn' (id := 11), aw_drawn (id := 12), aw_drawn' (id := 12), f9, hqu.len T.i22, hqu.addr Try.underlying45 T.s50 T.z50, hqu.loadh T.r50, Int.toNat_natCast, s1]
        exact IJ_intro (k := j) (by omega) (j, _, q4.set j (g)) rfl ⟨rfl, Ow.keep ou5 (fun b hb _ _ => wr_ne (by rw [hb]; exact fun e => nsq e.symm)) (by rw [wr_next]; exact Nat.le_refl _), Ow.keep ov5 (fun b hb _ _ => wr_ne (by rw [hb]; have := bsv; omega)) (by rw [wr_next]; exact Nat.le_refl _), s2, Hle.wr hle5 hsq1 _ _, by simpa using hql, hput⟩
      · have hqq0 : 0 ≤ qq := by rw [← hqq]; exact Int.ediv_nonneg (by rw [← hwin.1]; exact val_nonneg lwin) (by omega)
        have gl := giveL_lim o1 v 0
        have gn := giveL_len o1 v 0
        have gv := giveL_val o1 v 0 (by omega)
        rw [tn, hwin.2] at gv
        have go0 := val_nonneg gl
        have go1 := val_lt_pow gl
        rw [gn, tn, hwin.2] at go1
        obtain ⟨d1, d2⟩ := take_wrong hVM ⟨hq1, hq2⟩ tv ⟨to0, to1⟩ hgq gv ⟨go0, go1⟩
        have d3 : decide (c1 ≠ 0) = true := by simp [d1]
        have htj : (u4.take j).length = j := by rw [List.length_take]; omega
        have hmid : (u4.take j ++ o1).length = j + (b.length + 1) := by rw [List.length_append, htj]; omega
        have hl5 : (u4.take j ++ o1 ++ u4.drop (j + (b.length + 1))).length = u4.length := by rw [List.length_append, hmid, List.length_drop]; omega
        have ll5 : Lim (u4.take j ++ o1 ++ u4.drop (j + (b.length + 1))) := ((hi.ulim.take j).append tl).append (hi.ulim.drop _)
        have x1 : ((u4.take j ++ o1 ++ u4.drop (j + (b.length + 1))).drop j).take (b.length + 1) = o1 := by
          rw [List.append_assoc, List.drop_append_of_le_length (by omega), List.drop_of_length_le (by omega), List.nil_append, List.take_append_of_le_length (by omega), List.take_of_length_le (by omega)]
        have x2 : (u4.take j ++ o1 ++ u4.drop (j + (b.length + 1))).take j = u4.take j := by
          rw [List.append_assoc, List.take_append_of_le_length (by omega), List.take_of_length_le (by omega)]
        have x3 : (u4.take j ++ o1 ++ u4.drop (j + (b.length + 1))).drop (j + (b.length + 1)) = u4.drop (j + (b.length + 1)) := by
          rw [List.drop_append_of_le_length (by omega), List.drop_of_length_le (by omega), List.nil_append]
        have hput := hi.put hVk gl (by omega) (d := g - 1) (by rw [hW, d2, hgq]; rw [Int.add_sub_cancel]) (by omega) ⟨by omega, by omega⟩
        obtain ⟨sub2, e18, hw18⟩ := ou5.window (k := .i64) (k' := .i64) (i := j) (j := j + b.length + 1) (by omega) (by omega)
        rw [ew] at hw18
        have k0 : IntKind.u64.wrap (g - 1) = g - 1 := wrap_u64' (by omega) (by omega)
        simp (maxSteps := 1000000) (disch := first | exact sd | fail) only [go_sem, Nat.reduceAdd, Nat.reduceSub, Nat.reduceLeDiff, ↓reduceIte, decide_eq_true_eq, if_true, if_false, Bool.false_eq_true, Int.lt_irrefl, implies_true, true_and, and_true, eq_self, and_self, beq_self_eq_true, aw_plan (id := 4) pl147_4, pl147_4, aw_drawn (id := 7), aw_drawn' (id := 7), aw_drawn (id := 11), aw_drawn' (id := 11), aw_drawn (id := 12), aw_drawn' (id := 12), d3, k0, ej, e18]
        refine (c212 ou5 hw18 (by omega) ll5 lv (by omega) (by omega) (fun H' hon => UO.u (H0 := H2) (Ow.keep ov5 (fun b hb _ _ => hon.2 b (by rw [hb]; exact nsv)) (by rw [hon.1]; exact Nat.le_refl _)))).mono ?_
        rintro _ H6 ⟨rfl, ou6, on6⟩
        rw [x1, x2, x3] at ou6
        have ov6 : UO Try.prog H2 H6 sv v := Ow.keep ov5 (fun b hb _ _ => on6.2 b (by rw [hb]; exact nsv)) (by rw [on6.1]; exact Nat.le_refl _)
        have oq6 : UO Try.prog H3 H6 sq q4 := Ow.keep oq5 (fun b hb _ _ => on6.2 b (by rw [hb]; exact nsq)) (by rw [on6.1]; exact Nat.le_refl _)
        have hle6 : Hle H1 H6 := ⟨by rw [on6.1]; exact hle5.next, fun c hc => by rw [on6.2 c (by have := bsu; omega)]; exact hle5.get c hc⟩
        simp (maxSteps := 1000000) (disch := first | exact sd | fail) only [go_sem, Nat.reduceAdd, Nat.reduceSub, Nat.reduceLeDiff, ↓reduceIte, decide_eq_true_eq, if_true, if_false, Bool.false_eq_true, Int.lt_irrefl, implies_true, true_and, and_true, eq_self, and_self, beq_self_eq_true, aw_plan (id := 4) pl147_4, pl147_4, aw_drawn (id := 7), aw_drawn' (id := 7), aw_drawn (id := 11), aw_drawn' (id := 11), aw_drawn (id := 12), aw_drawn' (id := 12)]
        refine e151.mono ?_
        rintro _ _ ⟨rfl, rfl⟩
        have f9 : (g - 1) % 4294967296 = (g - 1) := by omega
        obtain ⟨s1, s2⟩ := UO.store2 (x := (g - 1)) oq6 (show j < q4.length by omega)
        have hqu := oq6.u
        simp (maxSteps := 1000000) (disch := first | exact sd | fail) only [go_sem, Nat.reduceAdd, Nat.reduceSub, Nat.reduceLeDiff, ↓reduceIte, decide_eq_true_eq, if_true, if_false, Bool.false_eq_true, Int.lt_irrefl, implies_true, true_and, and_true, eq_self, and_self, beq_self_eq_true, aw_plan (id := 4) pl147_4, pl147_4, aw_drawn (id := 7), aw_drawn' (id := 7), aw_drawn (id := 11), aw_drawn' (id := 11), aw_drawn (id := 12), aw_drawn' (id := 12), f9, hqu.len T.i22, hqu.addr Try.underlying45 T.s50 T.z50, hqu.loadh T.r50, Int.toNat_natCast, s1]
        exact IJ_intro (k := j) (by omega) (j, _, q4.set j ((g - 1))) rfl ⟨rfl, Ow.keep ou6 (fun b hb _ _ => wr_ne (by rw [hb]; exact fun e => nsq e.symm)) (by rw [wr_next]; exact Nat.le_refl _), Ow.keep ov6 (fun b hb _ _ => wr_ne (by rw [hb]; have := bsv; omega)) (by rw [wr_next]; exact Nat.le_refl _), s2, Hle.wr hle6 hsq1 _ _, by simpa using hql, hput⟩
end Go.Abs
