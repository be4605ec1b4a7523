/- Joined: N23, N24. -/
import Derived.Test.YtboekagofficpaaNd
import Derived.Test.YtboekagofficpaaZb
/- By one limb. -/
set_option linter.unusedVariables false
set_option linter.unusedSimpArgs false
namespace Go.Abs
open Go Go.Proofs
set_option maxRecDepth 100000
set_option maxHeartbeats 40000000
set_option linter.unusedSimpArgs false

theorem rep_set {k : Nat} {L : List Int} {v : Int} : (List.replicate (k + 1) 0 ++ L).set k v = List.replicate k 0 ++ v :: L := by
  rw [List.replicate_succ', List.append_assoc, List.set_append_right _ _ (by simp), List.length_replicate, Nat.sub_self]; rfl


theorem c146 {H : Heap} {sa : Value} {a : List Int} {d : Int} (hu : U Try.prog H sa a) (ha : Lim a) (hd : 0 < d ∧ d < 4294967296) (hl : a.length ≤ 2 ^ 40) :
    ACalls Try.prog 80 [sa, .int .u32 d] H fun r H' => ∃ s l, r = .tuple ⟨[s, .int .u32 (val a % d)]⟩ ∧ U Try.prog H' s l ∧ Lim l ∧ val l = val a / d ∧ l.length = a.length ∧ Hle H H' := by
  refine ACalls.of_code T.hm (n := 40) Try.func80 rfl rfl rfl rfl ?_; simp only [List.replicate_succ, List.replicate_zero, List.cons_append, List.nil_append]
  simp (maxSteps := 1000000) (disch := first | exact sd | fail) only [go_sem, Nat.reduceAdd, Nat.reduceSub, Nat.reduceLeDiff, ↓reduceIte, decide_eq_true_eq, if_true, if_false, Bool.false_eq_true, Int.lt_irrefl, implies_true, true_and, and_true, eq_self, and_self, beq_self_eq_true, hu.len T.i22, hu.addr Try.underlying45 T.s50 T.z50, hu.loadh T.r50, show ((a.length : Int)).toNat = a.length by omega, aMk_int]
  have hO := zeros_own (H := H) (n := a.length) (by omega)
  generalize hso : Value.slice (some ⟨H.next, 0, none⟩) a.length a.length = so at hO ⊢
  refine aw_loopJ (σ := Nat) (fun k J => [sa, .int .u32 d, J 2, J 3, .slice none 0 0, .int .u32 0, so, .int .u64 (smallL d (a.drop k)).2, .int .i64 (k - 1), J 9, J 10, J 11, J 12, J 13, J 14, J 15, J 16, J 17, J 18, J 19, J 20, J 21, J 22, J 23, J 24, J 25, J 26, J 27, J 28, J 29, J 30, J 31, J 32, J 33, J 34, J 35, J 36, J 37, J 38, J 39, J 40, J 41]) (fun n k H1 => n = k ∧ k ≤ a.length ∧ Hle H H1 ∧ UO Try.prog H H1 so (List.replicate k 0 ++ (smallL d (a.drop k)).1)) a.length a.length (by rw [List.drop_length]; rfl) ⟨rfl, Nat.le_refl _, Hle.push0 _, by rw [List.drop_length, smallL, List.append_nil]; exact hO⟩ ?_
  rintro n k J H1 ⟨rfl, hk, hle, ho⟩
  have hx1 := hu.mono hle
  have hou := ho.u
  cases n with
  | succ k =>
    have hxk := ha.getD k
    have hr := smallL_rest hd.1 (a.drop (k + 1))
    have hsl := smallL_len d (a.drop (k + 1))
    rw [List.length_drop] at hsl
    have e1 : a.drop k = a.getD k 0 :: a.drop (k + 1) := drop_getD (by omega)
    have e2 : smallL d (a.drop k) = (((smallL d (a.drop (k + 1))).2 * 4294967296 + a.getD k 0) / d :: (smallL d (a.drop (k + 1))).1, ((smallL d (a.drop (k + 1))).2 * 4294967296 + a.getD k 0) % d) := by rw [e1]; rfl
    have hst := small_step hd hr hxk
    have hrm := Int.emod_lt_of_pos ((smallL d (a.drop (k + 1))).2 * 4294967296 + a.getD k 0) hd.1
    have hrn := Int.emod_nonneg ((smallL d (a.drop (k + 1))).2 * 4294967296 + a.getD k 0) (show d ≠ 0 by omega)
    generalize hrr : (smallL d (a.drop (k + 1))).2 = r at *
    generalize hqq : (smallL d (a.drop (k + 1))).1 = qs at *
    have f0 := wrap_u64' (z := d) (by omega) (by omega)
    have f00 := wrap_u64' hxk.1 (Int.lt_trans hxk.2 (by decide))
    have f1 : r * 4294967296 % 18446744073709551616 = r * 4294967296 := by omega
    have f2 : aBits .or .u64 (r * 4294967296) (a.getD k 0) = r * 4294967296 + a.getD k 0 := by rw [or_add32' hxk (by omega)]; omega
    have f3 : IntKind.u64.wrap ((r * 4294967296 + a.getD k 0).tdiv d) = (r * 4294967296 + a.getD k 0) / d := by rw [Int.tdiv_eq_ediv_of_nonneg (by omega), wrap_u64' (by omega) (by omega)]
    have f4 : (r * 4294967296 + a.getD k 0).tmod d = (r * 4294967296 + a.getD k 0) % d := Int.tmod_eq_emod_of_nonneg (by omega)
    have f5 : (r * 4294967296 + a.getD k 0) / d % 4294967296 = (r * 4294967296 + a.getD k 0) / d := by omega
    have i1 : (((k + 1 : Nat) : Int) - 1).toNat = k := by omega
    have hlo : (List.replicate (k + 1) 0 ++ qs).length = a.length := by rw [List.length_append, List.length_replicate]; omega
    obtain ⟨s1, s2, s3⟩ := ho.store (o := k) (x := (r * 4294967296 + a.getD k 0) / d) hle (by omega)
    rw [rep_set] at s2
    simp (maxSteps := 1000000) (disch := first | exact sd | fail) only [go_sem, Nat.reduceAdd, Nat.reduceSub, Nat.reduceLeDiff, ↓reduceIte, decide_eq_true_eq, if_true, if_false, Bool.false_eq_true, Int.lt_irrefl, implies_true, true_and, and_true, eq_self, and_self, beq_self_eq_true, show (0 : Int) ≤ ((k + 1 : Nat) : Int) - 1 by omega, hx1.len T.i22, hx1.addr Try.underlying45 T.s50 T.z50, hx1.loadh T.r50,  hou.len T.i22,  hou.addr Try.underlying45 T.s50 T.z50,  hou.loadh T.r50, i1, f0, f00, f1, f2, f3, f4, f5, wrap_u32, s1]
    refine e151.mono ?_
    rintro _ _ ⟨rfl, rfl⟩
    simp (maxSteps := 1000000) (disch := first | exact sd | fail) only [go_sem, Nat.reduceAdd, Nat.reduceSub, Nat.reduceLeDiff, ↓reduceIte, decide_eq_true_eq, if_true, if_false, Bool.false_eq_true, Int.lt_irrefl, implies_true, true_and, and_true, eq_self, and_self, beq_self_eq_true, i1, hou.len T.i22, hou.addr Try.underlying45 T.s50 T.z50, hou.loadh T.r50, f4, f5, f0, s1]
    refine IJ_intro (k := k) (by omega) k ?_ ⟨rfl, by omega, s3, by rw [e2]; exact s2⟩
    rw [e2, show ((k + 1 : Nat) : Int) - 1 - 1 = (k : Int) - 1 by omega]; rfl
  | zero =>
    rw [List.replicate_zero, List.nil_append, List.drop_zero] at ho
    have hr := smallL_rest hd.1 a
    have hdv := smallL_div hd.1 (l := a)
    have hou := ho.u
    have hll := smallL_len d a
    rw [List.drop_zero]
    simp (maxSteps := 1000000) (disch := first | exact sd | fail) only [go_sem, Nat.reduceAdd, Nat.reduceSub, Nat.reduceLeDiff, ↓reduceIte, decide_eq_true_eq, if_true, if_false, Bool.false_eq_true, Int.lt_irrefl, implies_true, true_and, and_true, eq_self, and_self, beq_self_eq_true, show ¬ (0 : Int) ≤ ((0 : Nat) : Int) - 1 by omega]
    refine e151.mono ?_
    rintro _ _ ⟨rfl, rfl⟩
    simp (maxSteps := 1000000) (disch := first | exact sd | fail) only [go_sem, Nat.reduceAdd, Nat.reduceSub, Nat.reduceLeDiff, ↓reduceIte, decide_eq_true_eq, if_true, if_false, Bool.false_eq_true, Int.lt_irrefl, implies_true, true_and, and_true, eq_self, and_self, beq_self_eq_true]
    exact ⟨so, _, by rw [show (smallL d a).2 % 4294967296 = (smallL d a).2 by omega, hdv.2], hou, smallL_lim hd a ha, hdv.1, hll, hle⟩
end Go.Abs

/- Shifts. -/
set_option linter.unusedVariables false
set_option linter.unusedSimpArgs false
namespace Go.Abs
open Go Go.Proofs
set_option maxRecDepth 100000
set_option maxHeartbeats 40000000
set_option linter.unusedSimpArgs false

theorem two_pow {n : Nat} (hn : n < 32) : 0 < (2 : Int) ^ n ∧ (2 : Int) ^ n ≤ 2147483648 := by
  refine ⟨Int.pow_pos (by decide), ?_⟩
  have h := Nat.pow_le_pow_right (n := 2) (by decide) (show n ≤ 31 by omega)
  have h2 := Int.ofNat_le.2 h
  rw [Int.natCast_pow, Int.natCast_pow] at h2
  exact h2
theorem or_addn {n : Nat} {c x : Int} (hn : n < 32) (hc : 0 ≤ c ∧ c < 2 ^ n) (hx : 0 ≤ x ∧ x < 4294967296) : aBits .or .u64 c (x * 2 ^ n) = c + x * 2 ^ n := by
  have h2 := two_pow hn
  obtain ⟨a, rfl⟩ := Int.eq_ofNat_of_zero_le hc.1
  obtain ⟨b, rfl⟩ := Int.eq_ofNat_of_zero_le hx.1
  have ha : a < 2 ^ n := by
    have := hc.2
    have e : ((2 ^ n : Nat) : Int) = (2 : Int) ^ n := Int.natCast_pow 2 n
    omega
  have hb : b * 2 ^ n < 2 ^ 64 := by
    have h3 : 2 ^ n ≤ 2 ^ 31 := Nat.pow_le_pow_right (by decide) (by omega)
    have h4 := Nat.mul_le_mul (show b ≤ 4294967295 by omega) h3
    omega
  have h := or_disjoint (a := a) (b := b) n ha
  have := aBits_or_nat (a := a) (b := b * 2 ^ n) (by have : 2 ^ n ≤ 2 ^ 31 := Nat.pow_le_pow_right (by decide) (by omega); omega) hb
  rw [h] at this
  have e : ((b * 2 ^ n : Nat) : Int) = (b : Int) * 2 ^ n := by rw [Int.natCast_mul, Int.natCast_pow]; rfl
  have e2 : ((a + b * 2 ^ n : Nat) : Int) = (a : Int) + b * 2 ^ n := by rw [Int.natCast_add, e]
  rw [e, e2] at this
  exact this
theorem shl_n {n : Nat} {x : Int} (hn : n < 32) (hx : 0 ≤ x ∧ x < 4294967296) : IntKind.u64.wrap (x * 2 ^ (min n 64)) = x * 2 ^ n := by
  have h2 := two_pow hn
  have h3 : 0 ≤ x * 2 ^ n := Int.mul_nonneg hx.1 (by omega)
  have h4 : x * 2 ^ n ≤ 4294967295 * 2 ^ n := Int.mul_le_mul_of_nonneg_right (by omega) (by omega)
  rw [show min n 64 = n by omega]
  exact wrap_u64' h3 (by omega)
theorem shr_n {n : Nat} {x : Int} (hn : n < 32) : x.fdiv (2 ^ (min n 64)) = x / 2 ^ n := by
  rw [show min n 64 = n by omega]
  exact fdiv_pow _ _

theorem c210 {H : Heap} {sa : Value} {a : List Int} {n : Nat} (hu : U Try.prog H sa a) (ha : Lim a) (hn : n < 32) (hl : a.length ≤ 2 ^ 40) :
    ACalls Try.prog 83 [sa, .int .i64 n] H fun r H' => ∃ l, UO Try.prog H H' r l ∧ Lim l ∧ val l = val a * 2 ^ n ∧ l.length = a.length + 1 ∧ Hle H H' := by
  have h2 := two_pow hn
  refine ACalls.of_code T.hm (n := 36) Try.func83 rfl rfl rfl rfl ?_; simp only [List.replicate_succ, List.replicate_zero, List.cons_append, List.nil_append]
  simp (maxSteps := 1000000) (disch := first | exact sd | fail) only [go_sem, Nat.reduceAdd, Nat.reduceSub, Nat.reduceLeDiff, ↓reduceIte, decide_eq_true_eq, if_true, if_false, Bool.false_eq_true, Int.lt_irrefl, implies_true, true_and, and_true, eq_self, and_self, beq_self_eq_true, hu.len T.i22, hu.addr Try.underlying45 T.s50 T.z50, hu.loadh T.r50, show ((a.length : Int) + 1).toNat = a.length + 1 by omega, aMk_int]
  have hO := zeros_fresh (H := H) (n := a.length + 1) (by omega)
  refine aw_loopJ (σ := Nat × Value × Int) (fun s J => [sa, .int .i64 n, J 2, J 3, .slice none 0 0, s.2.1, .int .u64 s.2.2, J 7, J 8, J 9, J 10, J 11, J 12, sa, .int .i64 a.length, .int .i64 s.1, J 16, J 17, J 18, J 19, J 20, J 21, J 22, J 23, J 24, J 25, J 26, J 27, J 28, J 29, J 30, J 31, J 32, J 33, J 34, J 35, J 36, J 37]) (fun m s H1 => m = a.length - s.1 ∧ s.1 ≤ a.length ∧ Hle H H1 ∧ (0 ≤ s.2.2 ∧ s.2.2 < 2 ^ n) ∧ ∃ o, UO Try.prog H H1 s.2.1 o ∧ o.length = s.1 ∧ Lim o ∧ o ++ shiftL (2 ^ n) (a.drop s.1) s.2.2 = shiftL (2 ^ n) a 0) a.length (0, .slice (some ⟨H.next, 0, none⟩) 0 (a.length + 1), 0) rfl ⟨rfl, Nat.zero_le _, Hle.push0 _, (by first | omega | (dsimp only; omega)), [], hO, rfl, Lim.nil, rfl⟩ ?_
  rintro m ⟨k, so, c⟩ J H1 ⟨rfl, hk, hle, hc, o, ho, hol, holim, he⟩
  simp only at hk hc ho hol he
  have hx1 := hu.mono hle
  by_cases h4 : (k : Int) < a.length
  · have hxk := ha.getD k
    have e1 : a.drop k = a.getD k 0 :: a.drop (k + 1) := drop_getD (by omega)
    rw [e1, shiftL] at he
    have hst := shift_step (p := 2 ^ n) ⟨h2.1, by omega⟩ hc hxk
    have f1 := shl_n hn hxk
    have f2 := or_addn hn hc hxk
    simp (maxSteps := 1000000) (disch := first | exact sd | fail) only [go_sem, Nat.reduceAdd, Nat.reduceSub, Nat.reduceLeDiff, ↓reduceIte, decide_eq_true_eq, if_true, if_false, Bool.false_eq_true, Int.lt_irrefl, implies_true, true_and, and_true, eq_self, and_self, beq_self_eq_true, h4, hx1.len T.i22, hx1.addr Try.underlying45 T.s50 T.z50, hx1.loadh T.r50, Int.toNat_natCast, wrap_u64' hxk.1 (Int.lt_trans hxk.2 (by decide)), bin_shl, f1, f2]
    refine e151.mono ?_
    rintro _ _ ⟨rfl, rfl⟩
    obtain ⟨h6, h7, h8⟩ := ho.append1 (x := (c + a.getD k 0 * 2 ^ n) % 4294967296) hle (by omega)
    simp (maxSteps := 1000000) (disch := first | exact sd | fail) only [go_sem, Nat.reduceAdd, Nat.reduceSub, Nat.reduceLeDiff, ↓reduceIte, decide_eq_true_eq, if_true, if_false, Bool.false_eq_true, Int.lt_irrefl, implies_true, true_and, and_true, eq_self, and_self, beq_self_eq_true, h6]
    refine IJ_intro (k := a.length - (k + 1)) (by omega) (k + 1, _, _) rfl ⟨rfl, (by first | omega | (dsimp only; omega)), h8, (by first | omega | (dsimp only; omega)), _, h7, by simp [hol], holim.append (Lim.cons (by omega) Lim.nil), ?_⟩
    rw [← he, List.append_assoc]; rfl
  · have hkx : k = a.length := by omega
    subst hkx
    rw [List.drop_length, shiftL] at he
    have hcc : c % 4294967296 = c := by omega
    simp (maxSteps := 1000000) (disch := first | exact sd | fail) only [go_sem, Nat.reduceAdd, Nat.reduceSub, Nat.reduceLeDiff, ↓reduceIte, decide_eq_true_eq, if_true, if_false, Bool.false_eq_true, Int.lt_irrefl, implies_true, true_and, and_true, eq_self, and_self, beq_self_eq_true, h4]
    refine e151.mono ?_
    rintro _ _ ⟨rfl, rfl⟩
    rw [hcc]
    obtain ⟨h6, h7, h8⟩ := ho.append1 (x := c) hle (by omega)
    simp (maxSteps := 1000000) (disch := first | exact sd | fail) only [go_sem, Nat.reduceAdd, Nat.reduceSub, Nat.reduceLeDiff, ↓reduceIte, decide_eq_true_eq, if_true, if_false, Bool.false_eq_true, Int.lt_irrefl, implies_true, true_and, and_true, eq_self, and_self, beq_self_eq_true, h6]
    rw [he] at h7
    exact ⟨_, h7, shiftL_lim ⟨h2.1, by omega⟩ _ _ ha ⟨by omega, h2.1⟩, by rw [shiftL_val, Int.add_zero], shiftL_len _ _ _, h8⟩

theorem c213 {H : Heap} {sa : Value} {a : List Int} {n : Nat} (hu : U Try.prog H sa a) (ha : Lim a) (hn : n < 32) (hl : a.length ≤ 2 ^ 40) :
    ACalls Try.prog 86 [sa, .int .i64 n] H fun r H' => ∃ l, U Try.prog H' r l ∧ Lim l ∧ val l = val a / 2 ^ n ∧ l.length = a.length ∧ Hle H H' := by
  have h2 := two_pow hn
  refine ACalls.of_code T.hm (n := 42) Try.func86 rfl rfl rfl rfl ?_; simp only [List.replicate_succ, List.replicate_zero, List.cons_append, List.nil_append]
  simp (maxSteps := 1000000) (disch := first | exact sd | fail) only [go_sem, Nat.reduceAdd, Nat.reduceSub, Nat.reduceLeDiff, ↓reduceIte, decide_eq_true_eq, if_true, if_false, Bool.false_eq_true, Int.lt_irrefl, implies_true, true_and, and_true, eq_self, and_self, beq_self_eq_true, hu.len T.i22, hu.addr Try.underlying45 T.s50 T.z50, hu.loadh T.r50, show ((a.length : Int)).toNat = a.length by omega, aMk_int]
  have hO := zeros_own (H := H) (n := a.length) (by omega)
  generalize hso : Value.slice (some ⟨H.next, 0, none⟩) a.length a.length = so at hO ⊢
  refine aw_loopJ (σ := Nat × List Int) (fun s J => [sa, .int .i64 n, J 2, J 3, .slice none 0 0, so, J 6, J 7, J 8, J 9, J 10, sa, .int .i64 a.length, .int .i64 s.1, J 14, J 15, J 16, J 17, J 18, J 19, J 20, J 21, J 22, J 23, J 24, J 25, J 26, J 27, J 28, J 29, J 30, J 31, J 32, J 33, J 34, J 35, J 36, J 37, J 38, J 39, J 40, J 41, J 42, J 43]) (fun m s H1 => m = a.length - s.1 ∧ s.1 ≤ a.length ∧ Hle H H1 ∧ UO Try.prog H H1 so s.2 ∧ s.2.length = a.length ∧ s.2.take s.1 ++ backL (2 ^ n) (a.drop s.1) = backL (2 ^ n) a) a.length (0, List.replicate a.length 0) rfl ⟨rfl, Nat.zero_le _, Hle.push0 _, hO, by simp, rfl⟩ ?_
  rintro m ⟨k, o⟩ J H1 ⟨rfl, hk, hle, ho, hol, he⟩
  simp only at hk ho hol he
  have hx1 := hu.mono hle
  have hou := ho.u
  by_cases h4 : (k : Int) < a.length
  rotate_left
  · have hkx : k = a.length := by omega
    subst hkx
    rw [List.drop_length, backL, List.append_nil, List.take_of_length_le (by omega)] at he
    simp (maxSteps := 1000000) (disch := first | exact sd | fail) only [go_sem, Nat.reduceAdd, Nat.reduceSub, Nat.reduceLeDiff, ↓reduceIte, decide_eq_true_eq, if_true, if_false, Bool.false_eq_true, Int.lt_irrefl, implies_true, true_and, and_true, eq_self, and_self, beq_self_eq_true, h4]
    rw [he] at hou
    exact ⟨_, hou, backL_lim _ _, backL_val (q := 2 ^ (32 - n)) h2.1 (by rw [← Int.pow_add, show n + (32 - n) = 32 by omega]; rfl) a ha, backL_len _ _, hle⟩
  have hxk := ha.getD k
  have hxn := ha.getD (k + 1)
  have e1 : a.drop k = a.getD k 0 :: a.drop (k + 1) := drop_getD (by omega)
  rw [e1, backL, headD_drop] at he
  have f0 := wrap_u64' hxk.1 (Int.lt_trans hxk.2 (by decide))
  have f1 := wrap_u64' hxn.1 (Int.lt_trans hxn.2 (by decide))
  have f2 : a.getD (k + 1) 0 * 4294967296 % 18446744073709551616 = a.getD (k + 1) 0 * 4294967296 := by omega
  have f3 := or_add32 (u := a.getD k 0) (x := a.getD (k + 1) 0) hxk hxn
  have i1 : ((k : Int) + 1).toNat = k + 1 := by omega
  obtain ⟨s1, s2, s3⟩ := ho.store (o := k) (x := (a.getD k 0 + a.getD (k + 1) 0 * 4294967296) / 2 ^ n % 4294967296) hle (by omega)
  have hfin : (o.set k ((a.getD k 0 + a.getD (k + 1) 0 * 4294967296) / 2 ^ n % 4294967296)).take (k + 1) ++ backL (2 ^ n) (a.drop (k + 1)) = backL (2 ^ n) a := by
    rw [take_set (by omega), ← he, List.append_assoc]; rfl
  have g := shr_n (n := n) (x := a.getD k 0 + a.getD (k + 1) 0 * 4294967296) hn
  by_cases h5 : (k : Int) + 1 < a.length
  · simp (maxSteps := 1000000) (disch := first | exact sd | fail) only [go_sem, Nat.reduceAdd, Nat.reduceSub, Nat.reduceLeDiff, ↓reduceIte, decide_eq_true_eq, if_true, if_false, Bool.false_eq_true, Int.lt_irrefl, implies_true, true_and, and_true, eq_self, and_self, beq_self_eq_true, h4, h5, hx1.len T.i22, hx1.addr Try.underlying45 T.s50 T.z50, hx1.loadh T.r50,  hou.len T.i22,  hou.addr Try.underlying45 T.s50 T.z50,  hou.loadh T.r50, Int.toNat_natCast, f0, f1, f2, f3, i1, bin_shr, g]
    refine e151.mono ?_
    rintro _ _ ⟨rfl, rfl⟩
    simp (maxSteps := 1000000) (disch := first | exact sd | fail) only [go_sem, Nat.reduceAdd, Nat.reduceSub, Nat.reduceLeDiff, ↓reduceIte, decide_eq_true_eq, if_true, if_false, Bool.false_eq_true, Int.lt_irrefl, implies_true, true_and, and_true, eq_self, and_self, beq_self_eq_true, hou.len T.i22, hou.addr Try.underlying45 T.s50 T.z50, hou.loadh T.r50, Int.toNat_natCast, s1]
    exact IJ_intro (k := a.length - (k + 1)) (by omega) (k + 1, _) rfl ⟨rfl, (by first | omega | (dsimp only; omega)), s3, s2, by simpa using hol, hfin⟩
  · have hz : a.getD (k + 1) 0 = 0 := getD_none (by omega)
    rw [hz, Int.zero_mul, Int.add_zero] at g s1 s2 s3 hfin
    simp (maxSteps := 1000000) (disch := first | exact sd | fail) only [go_sem, Nat.reduceAdd, Nat.reduceSub, Nat.reduceLeDiff, ↓reduceIte, decide_eq_true_eq, if_true, if_false, Bool.false_eq_true, Int.lt_irrefl, implies_true, true_and, and_true, eq_self, and_self, beq_self_eq_true, h4, h5, hx1.len T.i22, hx1.addr Try.underlying45 T.s50 T.z50, hx1.loadh T.r50,  hou.len T.i22,  hou.addr Try.underlying45 T.s50 T.z50,  hou.loadh T.r50, Int.toNat_natCast, f0, bin_shr, g]
    refine e151.mono ?_
    rintro _ _ ⟨rfl, rfl⟩
    simp (maxSteps := 1000000) (disch := first | exact sd | fail) only [go_sem, Nat.reduceAdd, Nat.reduceSub, Nat.reduceLeDiff, ↓reduceIte, decide_eq_true_eq, if_true, if_false, Bool.false_eq_true, Int.lt_irrefl, implies_true, true_and, and_true, eq_self, and_self, beq_self_eq_true, hou.len T.i22, hou.addr Try.underlying45 T.s50 T.z50, hou.loadh T.r50, Int.toNat_natCast, s1]
    exact IJ_intro (k := a.length - (k + 1)) (by omega) (k + 1, _) rfl ⟨rfl, (by first | omega | (dsimp only; omega)), s3, s2, by simpa using hol, hfin⟩
end Go.Abs
