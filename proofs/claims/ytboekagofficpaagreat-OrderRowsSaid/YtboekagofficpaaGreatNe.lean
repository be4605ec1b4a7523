/- Joined: N23, N24. -/
import Derived.Test.YtboekagofficpaaGreatNd
import Derived.Test.YtboekagofficpaaGreatZb
/- By one limb. -/
set_option linter.unusedVariables false
set_option linter.unusedSimpArgs false
namespace Go.Abs
open Go Go.Proofs
set_option maxRecDepth 100000
set_option maxHeartbeats 40000000
set_option linter.unusedSimpArgs false

theorem rep_set {k : Nat} {L : List Int} {v : Int} : (List.replicate (k + 1) 0 ++ L).set k v = List.replicate k 0 ++ v :: L := by
  rw [List.replicate_succ', List.append_assoc, List.set_append_right _ _ (by simp), List.length_replicate, Nat.sub_self]; rfl


theorem c155 {H : Heap} {sa : Value} {a : List Int} {d : Int} (hu : U Tryz.prog H sa a) (ha : Lim a) (hd : 0 < d ∧ d < 4294967296) (hl : a.length ≤ 2 ^ 40) :
    ACalls Tryz.prog 106 [sa, .int .u64 d] H fun r H' => ∃ s l, r = .tuple ⟨[s, .int .u64 (val a % d)]⟩ ∧ U Tryz.prog H' s l ∧ Lim l ∧ val l = val a / d ∧ l.length ≤ a.length ∧ Top l ∧ Hle H H' := by
  refine ACalls.of_code T.hm (n := 39) Tryz.func106 rfl rfl rfl rfl ?_; simp only [List.replicate_succ, List.replicate_zero, List.cons_append, List.nil_append]
  simp (maxSteps := 1000000) (disch := first | exact sd | fail) only [go_sem, Nat.reduceAdd, Nat.reduceSub, Nat.reduceLeDiff, ↓reduceIte, decide_eq_true_eq, if_true, if_false, Bool.false_eq_true, Int.lt_irrefl, implies_true, true_and, and_true, eq_self, and_self, beq_self_eq_true, hu.len T.i22, hu.addr Tryz.underlying70 T.s50 T.z50, hu.loadh T.r50, show ((a.length : Int)).toNat = a.length by omega, aMk_int]
  have hO := zeros_own (H := H) (n := a.length) (by omega)
  generalize hso : Value.slice (some ⟨H.next, 0, none⟩) a.length a.length = so at hO ⊢
  refine aw_loopJ (σ := Nat) (fun k J => [sa, .int .u64 d, J 2, J 3, .slice none 0 0, .int .u64 0, so, .int .u64 (smallL d (a.drop k)).2, .int .i64 (k - 1), J 9, J 10, J 11, J 12, J 13, J 14, J 15, J 16, J 17, J 18, J 19, J 20, J 21, J 22, J 23, J 24, J 25, J 26, J 27, J 28, J 29, J 30, J 31, J 32, J 33, J 34, J 35, J 36, J 37, J 38, J 39, J 40]) (fun n k H1 => n = k ∧ k ≤ a.length ∧ Hle H H1 ∧ UO Tryz.prog H H1 so (List.replicate k 0 ++ (smallL d (a.drop k)).1)) a.length a.length (by rw [List.drop_length]; rfl) ⟨rfl, Nat.le_refl _, Hle.push0 _, by rw [List.drop_length, smallL, List.append_nil]; exact hO⟩ ?_
  rintro n k J H1 ⟨rfl, hk, hle, ho⟩
  have hx1 := hu.mono hle
  have hou := ho.u
  cases n with
  | succ k =>
    have hxk := ha.getD k
    have hr := smallL_rest hd.1 (a.drop (k + 1))
    have hsl := smallL_len d (a.drop (k + 1))
    rw [List.length_drop] at hsl
    have e1 : a.drop k = a.getD k 0 :: a.drop (k + 1) := drop_getD (by omega)
    have e2 : smallL d (a.drop k) = (((smallL d (a.drop (k + 1))).2 * 4294967296 + a.getD k 0) / d :: (smallL d (a.drop (k + 1))).1, ((smallL d (a.drop (k + 1))).2 * 4294967296 + a.getD k 0) % d) := by rw [e1]; rfl
    have hst := small_step hd hr hxk
    have hrm := Int.emod_lt_of_pos ((smallL d (a.drop (k + 1))).2 * 4294967296 + a.getD k 0) hd.1
    have hrn := Int.emod_nonneg ((smallL d (a.drop (k + 1))).2 * 4294967296 + a.getD k 0) (show d ≠ 0 by omega)
    generalize hrr : (smallL d (a.drop (k + 1))).2 = r at *
    generalize hqq : (smallL d (a.drop (k + 1))).1 = qs at *
    have f0 := wrap_u64' (z := d) (by omega) (by omega)
    have f00 := wrap_u64' hxk.1 (Int.lt_trans hxk.2 (by decide))
    have f1 : r * 4294967296 % 18446744073709551616 = r * 4294967296 := by omega
    have f2 : aBits .or .u64 (r * 4294967296) (a.getD k 0) = r * 4294967296 + a.getD k 0 := by rw [or_add32' hxk (by omega)]; omega
    have f3 : IntKind.u64.wrap ((r * 4294967296 + a.getD k 0).tdiv d) = (r * 4294967296 + a.getD k 0) / d := by rw [Int.tdiv_eq_ediv_of_nonneg (by omega), wrap_u64' (by omega) (by omega)]
    have f4 : (r * 4294967296 + a.getD k 0).tmod d = (r * 4294967296 + a.getD k 0) % d := Int.tmod_eq_emod_of_nonneg (by omega)
    have f5 : (r * 4294967296 + a.getD k 0) / d % 4294967296 = (r * 4294967296 + a.getD k 0) / d := by omega
    have i1 : (((k + 1 : Nat) : Int) - 1).toNat = k := by omega
    have hlo : (List.replicate (k + 1) 0 ++ qs).length = a.length := by rw [List.length_append, List.length_replicate]; omega
    obtain ⟨s1, s2, s3⟩ := ho.store (o := k) (x := (r * 4294967296 + a.getD k 0) / d) hle (by omega)
    rw [rep_set] at s2
    simp (maxSteps := 1000000) (disch := first | exact sd | fail) only [go_sem, Nat.reduceAdd, Nat.reduceSub, Nat.reduceLeDiff, ↓reduceIte, decide_eq_true_eq, if_true, if_false, Bool.false_eq_true, Int.lt_irrefl, implies_true, true_and, and_true, eq_self, and_self, beq_self_eq_true, show (0 : Int) ≤ ((k + 1 : Nat) : Int) - 1 by omega, hx1.len T.i22, hx1.addr Tryz.underlying70 T.s50 T.z50, hx1.loadh T.r50,  hou.len T.i22,  hou.addr Tryz.underlying70 T.s50 T.z50,  hou.loadh T.r50, i1, f0, f00, f1, f2, f3, f4, f5, wrap_u32, s1]
    skip
    refine IJ_intro (k := k) (by omega) k ?_ ⟨rfl, by omega, s3, by rw [e2]; exact s2⟩
    rw [e2, show ((k + 1 : Nat) : Int) - 1 - 1 = (k : Int) - 1 by omega]; rfl
  | zero =>
    rw [List.replicate_zero, List.nil_append, List.drop_zero] at ho
    have hr := smallL_rest hd.1 a
    have hdv := smallL_div hd.1 (l := a)
    have hou := ho.u
    have hll := smallL_len d a
    rw [List.drop_zero]
    simp (maxSteps := 1000000) (disch := first | exact sd | fail) only [go_sem, Nat.reduceAdd, Nat.reduceSub, Nat.reduceLeDiff, ↓reduceIte, decide_eq_true_eq, if_true, if_false, Bool.false_eq_true, Int.lt_irrefl, implies_true, true_and, and_true, eq_self, and_self, beq_self_eq_true, show ¬ (0 : Int) ≤ ((0 : Nat) : Int) - 1 by omega]
    refine (c215 hou (by omega)).mono ?_
    rintro s _ ⟨hs, rfl⟩
    simp (maxSteps := 1000000) (disch := first | exact sd | fail) only [go_sem, Nat.reduceAdd, Nat.reduceSub, Nat.reduceLeDiff, ↓reduceIte, decide_eq_true_eq, if_true, if_false, Bool.false_eq_true, Int.lt_irrefl, implies_true, true_and, and_true, eq_self, and_self, beq_self_eq_true]
    exact ⟨s, _, by rw [hdv.2], hs, (smallL_lim hd a ha).trimL, by rw [val_trimL, hdv.1], Nat.le_trans (length_trimL _) (by omega), top_trimL _, hle⟩
end Go.Abs

/- Shifts. -/
set_option linter.unusedVariables false
set_option linter.unusedSimpArgs false
namespace Go.Abs
open Go Go.Proofs
set_option maxRecDepth 100000
set_option maxHeartbeats 40000000
set_option linter.unusedSimpArgs false

theorem two_pow {n : Nat} (hn : n < 32) : 0 < (2 : Int) ^ n ∧ (2 : Int) ^ n ≤ 2147483648 := by
  refine ⟨Int.pow_pos (by decide), ?_⟩
  have h := Nat.pow_le_pow_right (n := 2) (by decide) (show n ≤ 31 by omega)
  have h2 := Int.ofNat_le.2 h
  rw [Int.natCast_pow, Int.natCast_pow] at h2
  exact h2
theorem or_addn {n : Nat} {c x : Int} (hn : n < 32) (hc : 0 ≤ c ∧ c < 2 ^ n) (hx : 0 ≤ x ∧ x < 4294967296) : aBits .or .u64 c (x * 2 ^ n) = c + x * 2 ^ n := by
  have h2 := two_pow hn
  obtain ⟨a, rfl⟩ := Int.eq_ofNat_of_zero_le hc.1
  obtain ⟨b, rfl⟩ := Int.eq_ofNat_of_zero_le hx.1
  have ha : a < 2 ^ n := by
    have := hc.2
    have e : ((2 ^ n : Nat) : Int) = (2 : Int) ^ n := Int.natCast_pow 2 n
    omega
  have hb : b * 2 ^ n < 2 ^ 64 := by
    have h3 : 2 ^ n ≤ 2 ^ 31 := Nat.pow_le_pow_right (by decide) (by omega)
    have h4 := Nat.mul_le_mul (show b ≤ 4294967295 by omega) h3
    omega
  have h := or_disjoint (a := a) (b := b) n ha
  have := aBits_or_nat (a := a) (b := b * 2 ^ n) (by have : 2 ^ n ≤ 2 ^ 31 := Nat.pow_le_pow_right (by decide) (by omega); omega) hb
  rw [h] at this
  have e : ((b * 2 ^ n : Nat) : Int) = (b : Int) * 2 ^ n := by rw [Int.natCast_mul, Int.natCast_pow]; rfl
  have e2 : ((a + b * 2 ^ n : Nat) : Int) = (a : Int) + b * 2 ^ n := by rw [Int.natCast_add, e]
  rw [e, e2] at this
  exact this
theorem shl_n {n : Nat} {x : Int} (hn : n < 32) (hx : 0 ≤ x ∧ x < 4294967296) : IntKind.u64.wrap (x * 2 ^ (min n 64)) = x * 2 ^ n := by
  have h2 := two_pow hn
  have h3 : 0 ≤ x * 2 ^ n := Int.mul_nonneg hx.1 (by omega)
  have h4 : x * 2 ^ n ≤ 4294967295 * 2 ^ n := Int.mul_le_mul_of_nonneg_right (by omega) (by omega)
  rw [show min n 64 = n by omega]
  exact wrap_u64' h3 (by omega)
theorem shr_n {n : Nat} {x : Int} (hn : n < 32) : x.fdiv (2 ^ (min n 64)) = x / 2 ^ n := by
  rw [show min n 64 = n by omega]
  exact fdiv_pow _ _

end Go.Abs
