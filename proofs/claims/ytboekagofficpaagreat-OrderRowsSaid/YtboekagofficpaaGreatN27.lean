/- The document's: twice, and one more. -/
import Derived.Test.YtboekagofficpaaGreatX1
set_option linter.unusedVariables false
set_option linter.unusedSimpArgs false
namespace Go.Abs
open Go Go.Proofs
set_option maxRecDepth 100000
set_option maxHeartbeats 40000000

def twL : List Int → Int → List Int
  | [], c => [c]
  | x :: l, c => (x * 2 % 4294967296 + c) :: twL l (x / 2147483648)
theorem twL_val : ∀ (l : List Int) (c : Int), val (twL l c) = 2 * val l + c
  | [], c => by simp [twL, val]
  | x :: l, c => by simp only [twL, val]; rw [twL_val l]; omega
theorem twL_len : ∀ (l : List Int) (c : Int), (twL l c).length = l.length + 1
  | [], c => rfl
  | x :: l, c => by simp [twL, twL_len l]
theorem twL_lim : ∀ (l : List Int) (c : Int), Lim l → 0 ≤ c ∧ c ≤ 1 → Lim (twL l c)
  | [], c, _, hc => Lim.cons (by omega) Lim.nil
  | x :: l, c, h, hc => by
    have := h.head
    exact Lim.cons (by omega) (twL_lim l _ h.tail (by omega))

theorem aBits32_or {a b : Nat} (ha : a < 2 ^ 32) (hb : b < 2 ^ 32) : aBits .or .u32 a b = ((a ||| b : Nat) : Int) := by
  have h1 : (BitVec.ofInt 32 (a : Int)).toNat = a := by rw [BitVec.toNat_ofInt]; omega
  have h2 : (BitVec.ofInt 32 (b : Int)).toNat = b := by rw [BitVec.toNat_ofInt]; omega
  have h3 : a ||| b < 2 ^ 32 := Nat.or_lt_two_pow ha hb
  show IntKind.u32.wrap (((BitVec.ofInt 32 (a : Int)) ||| (BitVec.ofInt 32 (b : Int))).toNat : Int) = _
  rw [BitVec.toNat_or, h1, h2, wrap_u32]
  omega
theorem or_low {n : Nat} {t c : Int} (ht : 0 ≤ t) (hlt : t * 2 ^ n < 4294967296) (hc : 0 ≤ c ∧ c < 2 ^ n) (hn : n < 32) : aBits .or .u32 (t * 2 ^ n) c = t * 2 ^ n + c := by
  have h2 := two_pow hn
  obtain ⟨a, rfl⟩ := Int.eq_ofNat_of_zero_le ht
  obtain ⟨b, rfl⟩ := Int.eq_ofNat_of_zero_le hc.1
  have e : ((2 ^ n : Nat) : Int) = (2 : Int) ^ n := Int.natCast_pow 2 n
  have e1 : ((a * 2 ^ n : Nat) : Int) = (a : Int) * 2 ^ n := by rw [Int.natCast_mul, e]
  have hb : b < 2 ^ n := by omega
  have h := or_disjoint (a := b) (b := a) n hb
  rw [← e1, aBits32_or (by omega) (by omega), Nat.or_comm, h]
  omega
theorem or_one {x c : Int} (hx : 0 ≤ x ∧ x < 4294967296) (hc : 0 ≤ c ∧ c ≤ 1) : aBits .or .u32 (x * 2 % 4294967296) c = x * 2 % 4294967296 + c := by
  have := or_low (n := 1) (t := x % 2147483648) (c := c) (by omega) (by omega) (by omega) (by decide)
  rw [show x % 2147483648 * 2 ^ 1 = x * 2 % 4294967296 by omega] at this
  exact this

theorem c214 {H : Heap} {sa : Value} {a : List Int} {one : Bool} (hu : U Tryz.prog H sa a) (ha : Lim a) (hl : a.length ≤ 2 ^ 40) :
    ACalls Tryz.prog 160 [sa, .bool one] H fun r H' => ∃ l, U Tryz.prog H' r l ∧ Lim l ∧ val l = 2 * val a + (if one = true then 1 else 0) ∧ l.length ≤ a.length + 1 ∧ Top l ∧ Hle H H' := by
  refine ACalls.of_code T.hm (n := 34) Tryz.func160 rfl rfl rfl rfl ?_; simp only [List.replicate_succ, List.replicate_zero, List.cons_append, List.nil_append]
  cases one with
  | true =>
    rw [if_pos rfl]
    simp (maxSteps := 1000000) (disch := first | exact sd | fail) only [go_sem, Nat.reduceAdd, Nat.reduceSub, Nat.reduceLeDiff, ↓reduceIte, decide_eq_true_eq, if_true, if_false, Bool.false_eq_true, Int.lt_irrefl, implies_true, true_and, and_true, eq_self, and_self, beq_self_eq_true]
    refine aw_loopJ (σ := Nat × Value × Int) (fun s J => [sa, .bool true, J 2, J 3, .slice none 0 0, s.2.1, .int .u32 s.2.2, .int .i64 s.1, J 8, J 9, J 10, J 11, J 12, J 13, J 14, J 15, J 16, J 17, J 18, J 19, J 20, J 21, J 22, J 23, J 24, J 25, J 26, J 27, J 28, J 29, J 30, J 31, J 32, J 33, J 34, J 35]) (fun n s H1 => n = a.length - s.1 ∧ s.1 ≤ a.length ∧ Hle H H1 ∧ (0 ≤ s.2.2 ∧ s.2.2 ≤ 1) ∧ ∃ o, UO Tryz.prog H H1 s.2.1 o ∧ o.length = s.1 ∧ o ++ twL (a.drop s.1) s.2.2 = twL a 1) a.length (0, .slice none 0 0, 1) rfl ⟨rfl, Nat.zero_le _, Hle.rfl, (by first | omega | (dsimp only; omega)), [], .nil, rfl, rfl⟩ ?_
    rintro n ⟨k, so, c⟩ J H1 ⟨rfl, hk, hle, hc, o, ho, hol, he⟩
    simp only at hk hc ho hol he
    have hx1 := hu.mono hle
    by_cases h4 : (k : Int) < a.length
    · have hxk := ha.getD k
      have e1 : a.drop k = a.getD k 0 :: a.drop (k + 1) := drop_getD (by omega)
      rw [e1, twL] at he
      have f1 := or_one hxk hc
      obtain ⟨h6, h7, h8⟩ := ho.append1 (x := a.getD k 0 * 2 % 4294967296 + c) hle (by omega)
      simp (maxSteps := 1000000) (disch := first | exact sd | fail) only [go_sem, Nat.reduceAdd, Nat.reduceSub, Nat.reduceLeDiff, ↓reduceIte, decide_eq_true_eq, if_true, if_false, Bool.false_eq_true, Int.lt_irrefl, implies_true, true_and, and_true, eq_self, and_self, beq_self_eq_true, h4, hx1.len T.i22, hx1.addr Tryz.underlying70 T.s50 T.z50, hx1.loadh T.r50, Int.toNat_natCast, f1, h6]
      have hx2 := hu.mono h8
      simp (maxSteps := 1000000) (disch := first | exact sd | fail) only [go_sem, Nat.reduceAdd, Nat.reduceSub, Nat.reduceLeDiff, ↓reduceIte, decide_eq_true_eq, if_true, if_false, Bool.false_eq_true, Int.lt_irrefl, implies_true, true_and, and_true, eq_self, and_self, beq_self_eq_true, hx2.len T.i22, hx2.addr Tryz.underlying70 T.s50 T.z50, hx2.loadh T.r50, Int.toNat_natCast]
      refine IJ_intro (k := a.length - (k + 1)) (by omega) (k + 1, _, _) rfl ⟨rfl, (by first | omega | (dsimp only; omega)), h8, (by first | omega | (dsimp only; omega)), _, h7, by simp [hol], ?_⟩
      rw [← he, List.append_assoc]; rfl
    · have hkx : k = a.length := by omega
      subst hkx
      rw [List.drop_length, twL] at he
      obtain ⟨h6, h7, h8⟩ := ho.append1 (x := c) hle (by omega)
      rw [he] at h7
      simp (maxSteps := 1000000) (disch := first | exact sd | fail) only [go_sem, Nat.reduceAdd, Nat.reduceSub, Nat.reduceLeDiff, ↓reduceIte, decide_eq_true_eq, if_true, if_false, Bool.false_eq_true, Int.lt_irrefl, implies_true, true_and, and_true, eq_self, and_self, beq_self_eq_true, h4, h6, hx1.len T.i22, hx1.addr Tryz.underlying70 T.s50 T.z50, hx1.loadh T.r50]
      refine (c215 h7.u (by rw [twL_len]; omega)).mono ?_
      rintro r _ ⟨hr, rfl⟩
      simp (maxSteps := 1000000) (disch := first | exact sd | fail) only [go_sem, Nat.reduceAdd, Nat.reduceSub, Nat.reduceLeDiff, ↓reduceIte, decide_eq_true_eq, if_true, if_false, Bool.false_eq_true, Int.lt_irrefl, implies_true, true_and, and_true, eq_self, and_self, beq_self_eq_true]
      exact ⟨_, hr, (twL_lim _ _ ha (by omega)).trimL, by rw [val_trimL, twL_val], by have := length_trimL (twL a 1); rw [twL_len] at this; exact this, top_trimL _, h8⟩
  | false =>
    rw [if_neg (by decide)]
    simp (maxSteps := 1000000) (disch := first | exact sd | fail) only [go_sem, Nat.reduceAdd, Nat.reduceSub, Nat.reduceLeDiff, ↓reduceIte, decide_eq_true_eq, if_true, if_false, Bool.false_eq_true, Int.lt_irrefl, implies_true, true_and, and_true, eq_self, and_self, beq_self_eq_true]
    refine aw_loopJ (σ := Nat × Value × Int) (fun s J => [sa, .bool false, J 2, J 3, .slice none 0 0, s.2.1, .int .u32 s.2.2, .int .i64 s.1, J 8, J 9, J 10, J 11, J 12, J 13, J 14, J 15, J 16, J 17, J 18, J 19, J 20, J 21, J 22, J 23, J 24, J 25, J 26, J 27, J 28, J 29, J 30, J 31, J 32, J 33, J 34, J 35]) (fun n s H1 => n = a.length - s.1 ∧ s.1 ≤ a.length ∧ Hle H H1 ∧ (0 ≤ s.2.2 ∧ s.2.2 ≤ 1) ∧ ∃ o, UO Tryz.prog H H1 s.2.1 o ∧ o.length = s.1 ∧ o ++ twL (a.drop s.1) s.2.2 = twL a 0) a.length (0, .slice none 0 0, 0) rfl ⟨rfl, Nat.zero_le _, Hle.rfl, (by first | omega | (dsimp only; omega)), [], .nil, rfl, rfl⟩ ?_
    rintro n ⟨k, so, c⟩ J H1 ⟨rfl, hk, hle, hc, o, ho, hol, he⟩
    simp only at hk hc ho hol he
    have hx1 := hu.mono hle
    by_cases h4 : (k : Int) < a.length
    · have hxk := ha.getD k
      have e1 : a.drop k = a.getD k 0 :: a.drop (k + 1) := drop_getD (by omega)
      rw [e1, twL] at he
      have f1 := or_one hxk hc
      obtain ⟨h6, h7, h8⟩ := ho.append1 (x := a.getD k 0 * 2 % 4294967296 + c) hle (by omega)
      simp (maxSteps := 1000000) (disch := first | exact sd | fail) only [go_sem, Nat.reduceAdd, Nat.reduceSub, Nat.reduceLeDiff, ↓reduceIte, decide_eq_true_eq, if_true, if_false, Bool.false_eq_true, Int.lt_irrefl, implies_true, true_and, and_true, eq_self, and_self, beq_self_eq_true, h4, hx1.len T.i22, hx1.addr Tryz.underlying70 T.s50 T.z50, hx1.loadh T.r50, Int.toNat_natCast, f1, h6]
      have hx2 := hu.mono h8
      simp (maxSteps := 1000000) (disch := first | exact sd | fail) only [go_sem, Nat.reduceAdd, Nat.reduceSub, Nat.reduceLeDiff, ↓reduceIte, decide_eq_true_eq, if_true, if_false, Bool.false_eq_true, Int.lt_irrefl, implies_true, true_and, and_true, eq_self, and_self, beq_self_eq_true, hx2.len T.i22, hx2.addr Tryz.underlying70 T.s50 T.z50, hx2.loadh T.r50, Int.toNat_natCast]
      refine IJ_intro (k := a.length - (k + 1)) (by omega) (k + 1, _, _) rfl ⟨rfl, (by first | omega | (dsimp only; omega)), h8, (by first | omega | (dsimp only; omega)), _, h7, by simp [hol], ?_⟩
      rw [← he, List.append_assoc]; rfl
    · have hkx : k = a.length := by omega
      subst hkx
      rw [List.drop_length, twL] at he
      obtain ⟨h6, h7, h8⟩ := ho.append1 (x := c) hle (by omega)
      rw [he] at h7
      simp (maxSteps := 1000000) (disch := first | exact sd | fail) only [go_sem, Nat.reduceAdd, Nat.reduceSub, Nat.reduceLeDiff, ↓reduceIte, decide_eq_true_eq, if_true, if_false, Bool.false_eq_true, Int.lt_irrefl, implies_true, true_and, and_true, eq_self, and_self, beq_self_eq_true, h4, h6, hx1.len T.i22, hx1.addr Tryz.underlying70 T.s50 T.z50, hx1.loadh T.r50]
      refine (c215 h7.u (by rw [twL_len]; omega)).mono ?_
      rintro r _ ⟨hr, rfl⟩
      simp (maxSteps := 1000000) (disch := first | exact sd | fail) only [go_sem, Nat.reduceAdd, Nat.reduceSub, Nat.reduceLeDiff, ↓reduceIte, decide_eq_true_eq, if_true, if_false, Bool.false_eq_true, Int.lt_irrefl, implies_true, true_and, and_true, eq_self, and_self, beq_self_eq_true]
      exact ⟨_, hr, (twL_lim _ _ ha (by omega)).trimL, by rw [val_trimL, twL_val], by have := length_trimL (twL a 0); rw [twL_len] at this; exact this, top_trimL _, h8⟩
end Go.Abs
