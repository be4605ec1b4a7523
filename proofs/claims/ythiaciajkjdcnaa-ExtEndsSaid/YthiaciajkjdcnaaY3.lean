/- num.Text: a call of values. -/
import Derived.Test.YthiaciajkjdcnaaYa
import Derived.Test.YthiaciajkjdcnaaZa
import Derived.Test.YthiaciajkjdcnaaQc
set_option linter.unusedVariables false
set_option linter.unusedSimpArgs false
namespace Go.Abs
open Go Go.Proofs
set_option maxRecDepth 100000
set_option maxHeartbeats 4000000

theorem dec_bound {n K j : Nat} (hn : n < 4294967296 ^ K) (h : n / 10 ^ j ≠ 0) : j < 32 * K := by
  have h1 : 10 ^ j ≤ n := by
    refine Nat.le_of_not_lt fun h2 => h (Nat.div_eq_of_lt h2)
  have h2 : (2 : Nat) ^ j ≤ 10 ^ j := Nat.pow_le_pow_left (by decide) j
  have h3 : (4294967296 : Nat) ^ K = 2 ^ (32 * K) := by rw [Nat.pow_mul]
  rw [h3] at hn
  exact (Nat.pow_lt_pow_iff_right (by decide : 1 < 2)).1 (by omega : 2 ^ j < 2 ^ (32 * K))
theorem decL_len {n K : Nat} (hn : n < 4294967296 ^ K) : (decL n).length ≤ 32 * K := by
  refine (decP_decL (32 * K) n (Nat.lt_of_lt_of_le hn ?_)).2
  rw [show (4294967296 : Nat) ^ K = 2 ^ (32 * K) by rw [Nat.pow_mul]]
  exact Nat.pow_le_pow_left (by decide) _
theorem decP_zero (j : Nat) {n : Nat} (h : n / 10 ^ j = 0) : decP j n = decL n ++ List.replicate (j - (decL n).length) 48 := by
  refine (decP_decL j n ?_).1
  have h0 : 0 < 10 ^ j := Nat.pow_pos (by decide)
  rcases Nat.lt_or_ge n (10 ^ j) with h1 | h1
  · exact h1
  · have := Nat.div_pos h1 h0; omega
theorem last_rep {l : List Int} {k : Nat} : (l ++ List.replicate (k + 1) 48).getD ((l ++ List.replicate (k + 1) (48 : Int)).length - 1) 0 = 48 := by
  have : (l ++ List.replicate (k + 1) (48 : Int)).length - 1 = l.length + k := by simp
  rw [this, List.getD_eq_getElem?_getD, List.getElem?_append_right (by omega), List.getElem?_replicate, if_pos (by omega)]; rfl
theorem take_rep {l : List Int} {k : Nat} : (l ++ List.replicate (k + 1) 48).take ((l ++ List.replicate (k + 1) (48 : Int)).length - 1) = l ++ List.replicate k 48 := by
  have : (l ++ List.replicate (k + 1) (48 : Int)).length - 1 = l.length + k := by simp
  rw [this, List.take_length_add_append]
  congr 1
  rw [List.take_replicate, Nat.min_eq_left (by omega)]

theorem p58 {n : Bool} {l : List Int} (h1 : Lb l) (hl : l.length ≤ 2 ^ 30) : PC Try.prog 76 [In n l] (.string (bsOf (txt (den n l)))) := by
  refine PC.of (.cons pu_in .nil) (.ground rfl) fun N hN => ?_
  have hd := ln_den (n := n) h1.1
  refine ACalls.of_code T.hm (n := 62) Try.func76 rfl rfl rfl rfl ?_; simp only [List.replicate_succ, List.replicate_zero, List.cons_append, List.nil_append]
  simp (maxSteps := 1000000) (disch := first | exact sd | fail) only [go_sem, Nat.reduceAdd, Nat.reduceSub, Nat.reduceLeDiff, ↓reduceIte, decide_eq_true_eq, if_true, if_false, Bool.false_eq_true, Int.lt_irrefl, implies_true, true_and, and_true, eq_self, and_self, beq_self_eq_true]
  refine PC.step (p142 h1) fun m1 j1 => ?_
  try simp only [Heap.next_push, Heap.next_set, Heap.next_kill, next_bump, next_E0] at j1
  simp (maxSteps := 1000000) (disch := first | exact sd | fail) only [go_sem, Nat.reduceAdd, Nat.reduceSub, Nat.reduceLeDiff, ↓reduceIte, decide_eq_true_eq, if_true, if_false, Bool.false_eq_true, Int.lt_irrefl, implies_true, true_and, and_true, eq_self, and_self, beq_self_eq_true]
  refine PC.step (p144 (n := false) (lb_z (z := den n l) (by omega))) fun m2 j2 => ?_
  try simp only [Heap.next_push, Heap.next_set, Heap.next_kill, next_bump, next_E0] at j2
  rw [if_neg (by decide), val_z]
  have q145 := p145 (n := n) h1
  generalize hD : den n l = D at *
  have hlt := ln_lt D
  generalize hB : D.natAbs = V at *
  simp (maxSteps := 1000000) (disch := first | exact sd | fail) only [go_sem, Nat.reduceAdd, Nat.reduceSub, Nat.reduceLeDiff, ↓reduceIte, decide_eq_true_eq, if_true, if_false, Bool.false_eq_true, Int.lt_irrefl, implies_true, true_and, and_true, eq_self, and_self, beq_self_eq_true]
  generalize hH0 : (E0 N).push (.row true 24 [.bool n, Vv eU l]) = HB at *
  have hBn : HB.next = N + 1 := by rw [← hH0, next_push, next_E0]
  have hBg : HB.get N = some (.row true 24 [.bool n, Vv eU l]) := by rw [← hH0]; exact get_push_self _ _
  refine aw_loopJ (σ := Nat × Nat × Value) (fun s J => [In n l, .pointer (some ⟨N, 0, none⟩), .string ByteArray.empty, s.2.2, Vv eU (lmb (s.2.1 : Int)), J 5, J 6, J 7, J 8, J 9, J 10, J 11, J 12, J 13, J 14, J 15, J 16, J 17, J 18, J 19, J 20, J 21, J 22, J 23, J 24, J 25, J 26, J 27, J 28, J 29, J 30, J 31, J 32, J 33, J 34, J 35, J 36, J 37, J 38, J 39, J 40, J 41, J 42, J 43, J 44, J 45, J 46, J 47, J 48, J 49, J 50, J 51, J 52, J 53, J 54, J 55, J 56, J 57, J 58, J 59, J 60, J 61, J 62]) (fun m s H1 => m = s.2.1 ∧ Hle HB H1 ∧ YO HB H1 s.2.2 (decP (9 * s.1) V) ∧ s.2.1 = V / 10 ^ (9 * s.1) ∧ 9 * s.1 ≤ 2 ^ 36) V (0, V, .slice none 0 0) rfl ⟨rfl, (Hle.rfl.bump (by omega)).bump (by rw [next_bump]; omega), VO.nil, by simp, by simp⟩ ?_
  rintro A ⟨j, _, sl⟩ J H1 ⟨rfl, hle, ho, hA, hj⟩
  simp only at ho hA hj
  have lA : ln (A : Int) ≤ 2 ^ 30 := by
    have h2 := ln_mono (a := (A : Int)) (b := D) (by rw [hB, hA]; exact Nat.div_le_self _ _)
    omega
  by_cases hA0 : A = 0
  · subst hA0
    rw [decP_zero (9 * j) hA.symm] at ho
    simp (maxSteps := 1000000) (disch := first | exact sd | fail) only [go_sem, Nat.reduceAdd, Nat.reduceSub, Nat.reduceLeDiff, ↓reduceIte, decide_eq_true_eq, if_true, if_false, Bool.false_eq_true, Int.lt_irrefl, implies_true, true_and, and_true, eq_self, and_self, beq_self_eq_true, Int.natCast_zero, lmb_zero, ln_zero, List.length_nil]
    refine aw_loopJ (σ := Nat × Value) (fun s J => [In n l, .pointer (some ⟨N, 0, none⟩), .string ByteArray.empty, s.2, J 4, J 5, J 6, J 7, J 8, J 9, J 10, J 11, J 12, J 13, J 14, J 15, J 16, J 17, J 18, J 19, J 20, J 21, J 22, J 23, J 24, J 25, J 26, J 27, J 28, J 29, J 30, J 31, J 32, J 33, J 34, J 35, J 36, J 37, J 38, J 39, J 40, J 41, J 42, J 43, J 44, J 45, J 46, J 47, J 48, J 49, J 50, J 51, J 52, J 53, J 54, J 55, J 56, J 57, J 58, J 59, J 60, J 61, J 62]) (fun m s H1 => m = s.1 ∧ s.1 ≤ 2 ^ 36 ∧ Hle HB H1 ∧ YO HB H1 s.2 (decL V ++ List.replicate s.1 48)) (9 * j - (decL V).length) (9 * j - (decL V).length, sl) rfl ⟨rfl, by dsimp only; omega, hle, ho⟩ ?_
    have hdl := decL_len hlt
    clear hle ho hA hj
    rintro m ⟨_, sl⟩ J H1 ⟨rfl, hk, hle, ho⟩
    simp only at hk ho
    cases m with
    | zero =>
      rw [List.replicate_zero, List.append_nil] at ho
      by_cases hV : V = 0
      · have hD0 : D = 0 := by omega
        subst hV hD0
        rw [decL_zero] at ho
        simp (maxSteps := 1000000) (disch := first | exact sd | fail) only [go_sem, Nat.reduceAdd, Nat.reduceSub, Nat.reduceLeDiff, ↓reduceIte, decide_eq_true_eq, if_true, if_false, Bool.false_eq_true, Int.lt_irrefl, implies_true, true_and, and_true, eq_self, and_self, beq_self_eq_true, ho.len T.s5 T.i140, List.length_nil, Int.natCast_zero]
        rw [show txt 0 = [48] from rfl]
        exact .rfl
      · have hne : 0 < (decL V).length := List.length_pos_iff.2 fun h => hV (decL_nil.1 h)
        have htop : ¬ (decL V).getD ((decL V).length - 1) 0 = 48 := by
          rcases decL_top V with h | h
          · exact absurd h hV
          · exact h
        have a1 := ho.addr (k := .i64) (i := ((decL V).length : Int) - 1) (by omega) (by omega)
        have g1 := ho.load (o := (decL V).length - 1) (by omega)
        rw [show (((decL V).length : Int) - 1).toNat = (decL V).length - 1 by omega] at a1
        simp (maxSteps := 1000000) (disch := first | exact sd | fail) only [go_sem, Nat.reduceAdd, Nat.reduceSub, Nat.reduceLeDiff, ↓reduceIte, decide_eq_true_eq, if_true, if_false, Bool.false_eq_true, Int.lt_irrefl, implies_true, true_and, and_true, eq_self, and_self, beq_self_eq_true, ho.len T.s5 T.i140, show (0 : Int) < (decL V).length by omega, show ¬ ((decL V).length : Int) = 0 by omega, a1, g1, htop, hle.get N, hBg]
        refine PC.step (q145) fun m3 j3 => ?_
        try simp only [Heap.next_push, Heap.next_set, Heap.next_kill, next_bump, next_E0] at j3
        simp (maxSteps := 1000000) (disch := first | exact sd | fail) only [go_sem, Nat.reduceAdd, Nat.reduceSub, Nat.reduceLeDiff, ↓reduceIte, decide_eq_true_eq, if_true, if_false, Bool.false_eq_true, Int.lt_irrefl, implies_true, true_and, and_true, eq_self, and_self, beq_self_eq_true]
        replace hle := hle.bump j3
        replace ho := ho.bump j3
        by_cases hs : D < 0
        · have h5 : sgn D = true := by rw [sgn_lt]; exact hs
          obtain ⟨v, H4, ea, oa, qa, na⟩ := YO.append1 ho hle 45 (by omega)
          rw [next_bump] at ea
          simp (maxSteps := 1000000) (disch := first | exact sd | fail) only [go_sem, Nat.reduceAdd, Nat.reduceSub, Nat.reduceLeDiff, ↓reduceIte, decide_eq_true_eq, if_true, if_false, Bool.false_eq_true, Int.lt_irrefl, implies_true, true_and, and_true, eq_self, and_self, beq_self_eq_true, h5, ea]
          refine (c154 oa qa (by simp; omega)).mono ?_
          rintro _ H5 ⟨rfl, o5, q5⟩
          simp (maxSteps := 1000000) (disch := first | exact sd | fail) only [go_sem, Nat.reduceAdd, Nat.reduceSub, Nat.reduceLeDiff, ↓reduceIte, decide_eq_true_eq, if_true, if_false, Bool.false_eq_true, Int.lt_irrefl, implies_true, true_and, and_true, eq_self, and_self, beq_self_eq_true, o5.bytes T.i140]
          unfold txt
          rw [if_neg (by omega), if_pos hs, hB, List.reverse_append]
          exact .rfl
        · have h5 : ¬ sgn D = true := by rw [sgn_lt]; exact hs
          simp (maxSteps := 1000000) (disch := first | exact sd | fail) only [go_sem, Nat.reduceAdd, Nat.reduceSub, Nat.reduceLeDiff, ↓reduceIte, decide_eq_true_eq, if_true, if_false, Bool.false_eq_true, Int.lt_irrefl, implies_true, true_and, and_true, eq_self, and_self, beq_self_eq_true, h5]
          refine (c154 ho hle (by omega)).mono ?_
          rintro _ H5 ⟨rfl, o5, q5⟩
          simp (maxSteps := 1000000) (disch := first | exact sd | fail) only [go_sem, Nat.reduceAdd, Nat.reduceSub, Nat.reduceLeDiff, ↓reduceIte, decide_eq_true_eq, if_true, if_false, Bool.false_eq_true, Int.lt_irrefl, implies_true, true_and, and_true, eq_self, and_self, beq_self_eq_true, o5.bytes T.i140]
          unfold txt
          rw [if_neg (by omega), if_neg hs, hB]
          exact .rfl
    | succ k =>
      have hlen : (decL V ++ List.replicate (k + 1) (48 : Int)).length = (decL V).length + k + 1 := by simp; omega
      have hlast := last_rep (l := decL V) (k := k)
      have htake := take_rep (l := decL V) (k := k)
      generalize decL V ++ List.replicate (k + 1) (48 : Int) = L at *
      have a1 := ho.addr (k := .i64) (i := (L.length : Int) - 1) (by omega) (by omega)
      have g1 := ho.load (o := L.length - 1) (by omega)
      rw [show ((L.length : Int) - 1).toNat = L.length - 1 by omega] at a1
      obtain ⟨sl', u1, u2, u3⟩ := VO.upto ho Try.underlying109 T.z5 (k := .i64) (i := L.length - 1) (by omega)
      rw [htake] at u2
      rw [show ((L.length - 1 : Nat) : Int) = (L.length : Int) - 1 by omega] at u1
      simp (maxSteps := 1000000) (disch := first | exact sd | fail) only [go_sem, Nat.reduceAdd, Nat.reduceSub, Nat.reduceLeDiff, ↓reduceIte, decide_eq_true_eq, if_true, if_false, Bool.false_eq_true, Int.lt_irrefl, implies_true, true_and, and_true, eq_self, and_self, beq_self_eq_true, ho.len T.s5 T.i140, show (0 : Int) < L.length by omega, a1, g1, hlast, u1]
      exact IJ_intro (k := k) (by omega) (k, sl') rfl ⟨rfl, by dsimp only; omega, hle, u2⟩
  · have hp : (0 : Int) < (ln (A : Int) : Nat) := by
      have : ln (A : Int) ≠ 0 := fun h => hA0 (by have := ln_eq_zero.1 h; omega)
      omega
    have hjb := dec_bound hlt (j := 9 * j) (by rw [← hA]; exact hA0)
    have e0 : ((lmb (A : Int)).length : Int) = (ln (A : Int) : Nat) := rfl
    simp (maxSteps := 1000000) (disch := first | exact sd | fail) only [go_sem, Nat.reduceAdd, Nat.reduceSub, Nat.reduceLeDiff, ↓reduceIte, decide_eq_true_eq, if_true, if_false, Bool.false_eq_true, Int.lt_irrefl, implies_true, true_and, and_true, eq_self, and_self, beq_self_eq_true, e0, hp]
    refine PK.step (p146 (lb_z (z := (A : Int)) (by omega)) (by omega)) fun r m1 hr hm1 => ?_
    obtain ⟨o, rfl, ho1, ho2⟩ := hr
    rw [val_z, Int.natAbs_natCast] at ho2 ⊢
    simp (maxSteps := 1000000) (disch := first | exact sd | fail) only [go_sem, Nat.reduceAdd, Nat.reduceSub, Nat.reduceLeDiff, ↓reduceIte, decide_eq_true_eq, if_true, if_false, Bool.false_eq_true, Int.lt_irrefl, implies_true, true_and, and_true, eq_self, and_self, beq_self_eq_true]
    refine PC.step (p144 (n := false) ho1) fun m2 hm2 => ?_
    rw [if_neg (by decide), ho2]
    simp (maxSteps := 1000000) (disch := first | exact sd | fail) only [go_sem, Nat.reduceAdd, Nat.reduceSub, Nat.reduceLeDiff, ↓reduceIte, decide_eq_true_eq, if_true, if_false, Bool.false_eq_true, Int.lt_irrefl, implies_true, true_and, and_true, eq_self, and_self, beq_self_eq_true]
    generalize hR : A % 1000000000 = R
    rw [show (A : Int) % 1000000000 = (R : Nat) by omega, show (A : Int) / 1000000000 = (A / 1000000000 : Nat) by omega]
    refine aw_loopJ (σ := Nat × Value) (fun s J => [In n l, .pointer (some ⟨N, 0, none⟩), .string ByteArray.empty, s.2, Vv eU (lmb ((A / 1000000000 : Nat) : Int)), J 5, .int .u32 ((R / 10 ^ s.1 : Nat) : Int), J 7, J 8, J 9, J 10, J 11, J 12, J 13, J 14, J 15, J 16, J 17, J 18, J 19, J 20, J 21, .int .i64 s.1, J 23, J 24, J 25, J 26, J 27, J 28, J 29, J 30, J 31, J 32, J 33, J 34, J 35, J 36, J 37, J 38, J 39, J 40, J 41, J 42, J 43, J 44, J 45, J 46, J 47, J 48, J 49, J 50, J 51, J 52, J 53, J 54, J 55, J 56, J 57, J 58, J 59, J 60, J 61, J 62]) (fun m s H1 => m = 9 - s.1 ∧ s.1 ≤ 9 ∧ Hle HB H1 ∧ YO HB H1 s.2 (decP (9 * j) V ++ decP s.1 R)) 9 (0, sl) (by simp only [Nat.pow_zero, Nat.div_one]; rfl) ⟨rfl, Nat.zero_le _, (hle.bump hm1).bump hm2, (by simpa [decP] using ((ho.bump hm1).bump hm2))⟩ ?_
    clear hle ho
    rintro m ⟨k, sl⟩ J H1 ⟨rfl, hk, hle, ho⟩
    simp only at hk ho
    by_cases h9 : (k : Int) < 9
    · have h10 : 0 < 10 ^ k := Nat.pow_pos (by decide)
      have hRk : R / 10 ^ k < 4294967296 := Nat.lt_of_le_of_lt (Nat.div_le_self _ _) (by omega)
      generalize hx : R / 10 ^ k = x at *
      have f1 : IntKind.u8.wrap (IntKind.u32.wrap (48 + (x : Int).tmod 10)) = ((x % 10 : Nat) : Int) + 48 := by
        have e : (x : Int).tmod 10 = ((x % 10 : Nat) : Int) := (Int.ofNat_tmod x 10).symm
        rw [e, wrap_u32, wrap_u8]; omega
      have f2 : IntKind.u32.wrap ((x : Int).tdiv 10) = ((R / 10 ^ (k + 1) : Nat) : Int) := by
        have e : (x : Int).tdiv 10 = ((x / 10 : Nat) : Int) := (Int.ofNat_tdiv x 10).symm
        have e2 : R / 10 ^ (k + 1) = x / 10 := by rw [Nat.pow_succ, ← Nat.div_div_eq_div_mul, hx]
        rw [e, e2, wrap_u32]; omega
      obtain ⟨v, H4, ea, oa, qa, na⟩ := ho.append1 hle (((x % 10 : Nat) : Int) + 48) (by simp [decP_len]; omega)
      rw [List.append_assoc, ← hx, ← decP_succ] at oa
      simp (maxSteps := 1000000) (disch := first | exact sd | fail) only [go_sem, Nat.reduceAdd, Nat.reduceSub, Nat.reduceLeDiff, ↓reduceIte, decide_eq_true_eq, if_true, if_false, Bool.false_eq_true, Int.lt_irrefl, implies_true, true_and, and_true, eq_self, and_self, beq_self_eq_true, h9, f1, f2, ea]
      exact IJ_intro (k := 9 - (k + 1)) (by omega) (k + 1, v) rfl ⟨rfl, by dsimp only; omega, qa, oa⟩
    · have hk9 : k = 9 := by omega
      subst hk9
      simp (maxSteps := 1000000) (disch := first | exact sd | fail) only [go_sem, Nat.reduceAdd, Nat.reduceSub, Nat.reduceLeDiff, ↓reduceIte, decide_eq_true_eq, if_true, if_false, Bool.false_eq_true, Int.lt_irrefl, implies_true, true_and, and_true, eq_self, and_self, beq_self_eq_true, h9]
      have e1 : A / 1000000000 = V / 10 ^ (9 * (j + 1)) := by
        rw [hA, Nat.div_div_eq_div_mul, Nat.mul_add, Nat.pow_add]
      have e2 : decP (9 * j) V ++ decP 9 R = decP (9 * (j + 1)) V := by
        rw [Nat.mul_add, decP_add (9 * j) 9 V, ← hA]
        congr 1
        exact decP_mod 9 _ _ (by rw [← hR]; exact Nat.mod_mod _ _)
      rw [e2] at ho
      exact IJ_intro (k := A / 1000000000) (by omega) (j + 1, A / 1000000000, sl) rfl ⟨rfl, hle, ho, e1, by dsimp only; omega⟩
end Go.Abs
