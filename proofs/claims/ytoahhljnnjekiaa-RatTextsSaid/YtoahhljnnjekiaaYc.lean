/- Joined: Y3, Y4, Y5, Y6, Y7. -/
import Derived.Test.YtoahhljnnjekiaaYa
import Derived.Test.YtoahhljnnjekiaaZa
import Derived.Test.YtoahhljnnjekiaaQc
import Derived.Laws.Strings
import Derived.Test.YtoahhljnnjekiaaNd
/- num.Text: a call of values. -/
set_option linter.unusedVariables false
set_option linter.unusedSimpArgs false
namespace Go.Abs
open Go Go.Proofs
set_option maxRecDepth 100000
set_option maxHeartbeats 4000000

theorem dec_bound {n K j : Nat} (hn : n < 4294967296 ^ K) (h : n / 10 ^ j ≠ 0) : j < 32 * K := by
  have h1 : 10 ^ j ≤ n := by
    refine Nat.le_of_not_lt fun h2 => h (Nat.div_eq_of_lt h2)
  have h2 : (2 : Nat) ^ j ≤ 10 ^ j := Nat.pow_le_pow_left (by decide) j
  have h3 : (4294967296 : Nat) ^ K = 2 ^ (32 * K) := by rw [Nat.pow_mul]
  rw [h3] at hn
  exact (Nat.pow_lt_pow_iff_right (by decide : 1 < 2)).1 (by omega : 2 ^ j < 2 ^ (32 * K))
theorem decL_len {n K : Nat} (hn : n < 4294967296 ^ K) : (decL n).length ≤ 32 * K := by
  refine (decP_decL (32 * K) n (Nat.lt_of_lt_of_le hn ?_)).2
  rw [show (4294967296 : Nat) ^ K = 2 ^ (32 * K) by rw [Nat.pow_mul]]
  exact Nat.pow_le_pow_left (by decide) _
theorem decP_zero (j : Nat) {n : Nat} (h : n / 10 ^ j = 0) : decP j n = decL n ++ List.replicate (j - (decL n).length) 48 := by
  refine (decP_decL j n ?_).1
  have h0 : 0 < 10 ^ j := Nat.pow_pos (by decide)
  rcases Nat.lt_or_ge n (10 ^ j) with h1 | h1
  · exact h1
  · have := Nat.div_pos h1 h0; omega
theorem last_rep {l : List Int} {k : Nat} : (l ++ List.replicate (k + 1) 48).getD ((l ++ List.replicate (k + 1) (48 : Int)).length - 1) 0 = 48 := by
  have : (l ++ List.replicate (k + 1) (48 : Int)).length - 1 = l.length + k := by simp
  rw [this, List.getD_eq_getElem?_getD, List.getElem?_append_right (by omega), List.getElem?_replicate, if_pos (by omega)]; rfl
theorem take_rep {l : List Int} {k : Nat} : (l ++ List.replicate (k + 1) 48).take ((l ++ List.replicate (k + 1) (48 : Int)).length - 1) = l ++ List.replicate k 48 := by
  have : (l ++ List.replicate (k + 1) (48 : Int)).length - 1 = l.length + k := by simp
  rw [this, List.take_length_add_append]
  congr 1
  rw [List.take_replicate, Nat.min_eq_left (by omega)]

theorem p58 {n : Bool} {l : List Int} (h1 : Lb l) (hl : l.length ≤ 2 ^ 30) : PC Try.prog 54 [In n l] (.string (bsOf (txt (den n l)))) := by
  refine PC.of (.cons pu_in .nil) (.ground rfl) fun N hN => ?_
  have hd := ln_den (n := n) h1.1
  refine ACalls.of_code T.hm (n := 62) Try.func54 rfl rfl rfl rfl ?_; simp only [List.replicate_succ, List.replicate_zero, List.cons_append, List.nil_append]
  simp (maxSteps := 1000000) (disch := first | exact sd | fail) only [go_sem, Nat.reduceAdd, Nat.reduceSub, Nat.reduceLeDiff, ↓reduceIte, decide_eq_true_eq, if_true, if_false, Bool.false_eq_true, Int.lt_irrefl, implies_true, true_and, and_true, eq_self, and_self, beq_self_eq_true]
  refine PC.step (p142 h1) fun m1 j1 => ?_
  try simp only [Heap.next_push, Heap.next_set, Heap.next_kill, next_bump, next_E0] at j1
  simp (maxSteps := 1000000) (disch := first | exact sd | fail) only [go_sem, Nat.reduceAdd, Nat.reduceSub, Nat.reduceLeDiff, ↓reduceIte, decide_eq_true_eq, if_true, if_false, Bool.false_eq_true, Int.lt_irrefl, implies_true, true_and, and_true, eq_self, and_self, beq_self_eq_true]
  refine PC.step (p144 (n := false) (lb_z (z := den n l) (by omega))) fun m2 j2 => ?_
  try simp only [Heap.next_push, Heap.next_set, Heap.next_kill, next_bump, next_E0] at j2
  rw [if_neg (by decide), val_z]
  have q145 := p145 (n := n) h1
  generalize hD : den n l = D at *
  have hlt := ln_lt D
  generalize hB : D.natAbs = V at *
  simp (maxSteps := 1000000) (disch := first | exact sd | fail) only [go_sem, Nat.reduceAdd, Nat.reduceSub, Nat.reduceLeDiff, ↓reduceIte, decide_eq_true_eq, if_true, if_false, Bool.false_eq_true, Int.lt_irrefl, implies_true, true_and, and_true, eq_self, and_self, beq_self_eq_true]
  generalize hH0 : (E0 N).push (.row true 24 [.bool n, Vv eU l]) = HB at *
  have hBn : HB.next = N + 1 := by rw [← hH0, next_push, next_E0]
  have hBg : HB.get N = some (.row true 24 [.bool n, Vv eU l]) := by rw [← hH0]; exact get_push_self _ _
  refine aw_loopJ (σ := Nat × Nat × Value) (fun s J => [In n l, .pointer (some ⟨N, 0, none⟩), .string ByteArray.empty, s.2.2, Vv eU (lmb (s.2.1 : Int)), J 5, J 6, J 7, J 8, J 9, J 10, J 11, J 12, J 13, J 14, J 15, J 16, J 17, J 18, J 19, J 20, J 21, J 22, J 23, J 24, J 25, J 26, J 27, J 28, J 29, J 30, J 31, J 32, J 33, J 34, J 35, J 36, J 37, J 38, J 39, J 40, J 41, J 42, J 43, J 44, J 45, J 46, J 47, J 48, J 49, J 50, J 51, J 52, J 53, J 54, J 55, J 56, J 57, J 58, J 59, J 60, J 61, J 62]) (fun m s H1 => m = s.2.1 ∧ Hle HB H1 ∧ YO HB H1 s.2.2 (decP (9 * s.1) V) ∧ s.2.1 = V / 10 ^ (9 * s.1) ∧ 9 * s.1 ≤ 2 ^ 36) V (0, V, .slice none 0 0) rfl ⟨rfl, (Hle.rfl.bump (by omega)).bump (by rw [next_bump]; omega), VO.nil, by simp, by simp⟩ ?_
  rintro A ⟨j, _, sl⟩ J H1 ⟨rfl, hle, ho, hA, hj⟩
  simp only at ho hA hj
  have lA : ln (A : Int) ≤ 2 ^ 30 := by
    have h2 := ln_mono (a := (A : Int)) (b := D) (by rw [hB, hA]; exact Nat.div_le_self _ _)
    omega
  by_cases hA0 : A = 0
  · subst hA0
    rw [decP_zero (9 * j) hA.symm] at ho
    simp (maxSteps := 1000000) (disch := first | exact sd | fail) only [go_sem, Nat.reduceAdd, Nat.reduceSub, Nat.reduceLeDiff, ↓reduceIte, decide_eq_true_eq, if_true, if_false, Bool.false_eq_true, Int.lt_irrefl, implies_true, true_and, and_true, eq_self, and_self, beq_self_eq_true, Int.natCast_zero, lmb_zero, ln_zero, List.length_nil]
    refine aw_loopJ (σ := Nat × Value) (fun s J => [In n l, .pointer (some ⟨N, 0, none⟩), .string ByteArray.empty, s.2, J 4, J 5, J 6, J 7, J 8, J 9, J 10, J 11, J 12, J 13, J 14, J 15, J 16, J 17, J 18, J 19, J 20, J 21, J 22, J 23, J 24, J 25, J 26, J 27, J 28, J 29, J 30, J 31, J 32, J 33, J 34, J 35, J 36, J 37, J 38, J 39, J 40, J 41, J 42, J 43, J 44, J 45, J 46, J 47, J 48, J 49, J 50, J 51, J 52, J 53, J 54, J 55, J 56, J 57, J 58, J 59, J 60, J 61, J 62]) (fun m s H1 => m = s.1 ∧ s.1 ≤ 2 ^ 36 ∧ Hle HB H1 ∧ YO HB H1 s.2 (decL V ++ List.replicate s.1 48)) (9 * j - (decL V).length) (9 * j - (decL V).length, sl) rfl ⟨rfl, by dsimp only; omega, hle, ho⟩ ?_
    have hdl := decL_len hlt
    clear hle ho hA hj
    rintro m ⟨_, sl⟩ J H1 ⟨rfl, hk, hle, ho⟩
    simp only at hk ho
    cases m with
    | zero =>
      rw [List.replicate_zero, List.append_nil] at ho
      by_cases hV : V = 0
      · have hD0 : D = 0 := by omega
        subst hV hD0
        rw [decL_zero] at ho
        simp (maxSteps := 1000000) (disch := first | exact sd | fail) only [go_sem, Nat.reduceAdd, Nat.reduceSub, Nat.reduceLeDiff, ↓reduceIte, decide_eq_true_eq, if_true, if_false, Bool.false_eq_true, Int.lt_irrefl, implies_true, true_and, and_true, eq_self, and_self, beq_self_eq_true, ho.len T.s5 T.i140, List.length_nil, Int.natCast_zero]
        rw [show txt 0 = [48] from rfl]
        exact .rfl
      · have hne : 0 < (decL V).length := List.length_pos_iff.2 fun h => hV (decL_nil.1 h)
        have htop : ¬ (decL V).getD ((decL V).length - 1) 0 = 48 := by
          rcases decL_top V with h | h
          · exact absurd h hV
          · exact h
        have a1 := ho.addr (k := .i64) (i := ((decL V).length : Int) - 1) (by omega) (by omega)
        have g1 := ho.load (o := (decL V).length - 1) (by omega)
        rw [show (((decL V).length : Int) - 1).toNat = (decL V).length - 1 by omega] at a1
        simp (maxSteps := 1000000) (disch := first | exact sd | fail) only [go_sem, Nat.reduceAdd, Nat.reduceSub, Nat.reduceLeDiff, ↓reduceIte, decide_eq_true_eq, if_true, if_false, Bool.false_eq_true, Int.lt_irrefl, implies_true, true_and, and_true, eq_self, and_self, beq_self_eq_true, ho.len T.s5 T.i140, show (0 : Int) < (decL V).length by omega, show ¬ ((decL V).length : Int) = 0 by omega, a1, g1, htop, hle.get N, hBg]
        refine PC.step (q145) fun m3 j3 => ?_
        try simp only [Heap.next_push, Heap.next_set, Heap.next_kill, next_bump, next_E0] at j3
        simp (maxSteps := 1000000) (disch := first | exact sd | fail) only [go_sem, Nat.reduceAdd, Nat.reduceSub, Nat.reduceLeDiff, ↓reduceIte, decide_eq_true_eq, if_true, if_false, Bool.false_eq_true, Int.lt_irrefl, implies_true, true_and, and_true, eq_self, and_self, beq_self_eq_true]
        replace hle := hle.bump j3
        replace ho := ho.bump j3
        by_cases hs : D < 0
        · have h5 : sgn D = true := by rw [sgn_lt]; exact hs
          obtain ⟨v, H4, ea, oa, qa, na⟩ := YO.append1 ho hle 45 (by omega)
          rw [next_bump] at ea
          simp (maxSteps := 1000000) (disch := first | exact sd | fail) only [go_sem, Nat.reduceAdd, Nat.reduceSub, Nat.reduceLeDiff, ↓reduceIte, decide_eq_true_eq, if_true, if_false, Bool.false_eq_true, Int.lt_irrefl, implies_true, true_and, and_true, eq_self, and_self, beq_self_eq_true, h5, ea]
          refine (c154 oa qa (by simp; omega)).mono ?_
          rintro _ H5 ⟨rfl, o5, q5⟩
          simp (maxSteps := 1000000) (disch := first | exact sd | fail) only [go_sem, Nat.reduceAdd, Nat.reduceSub, Nat.reduceLeDiff, ↓reduceIte, decide_eq_true_eq, if_true, if_false, Bool.false_eq_true, Int.lt_irrefl, implies_true, true_and, and_true, eq_self, and_self, beq_self_eq_true, o5.bytes T.i140]
          unfold txt
          rw [if_neg (by omega), if_pos hs, hB, List.reverse_append]
          exact .rfl
        · have h5 : ¬ sgn D = true := by rw [sgn_lt]; exact hs
          simp (maxSteps := 1000000) (disch := first | exact sd | fail) only [go_sem, Nat.reduceAdd, Nat.reduceSub, Nat.reduceLeDiff, ↓reduceIte, decide_eq_true_eq, if_true, if_false, Bool.false_eq_true, Int.lt_irrefl, implies_true, true_and, and_true, eq_self, and_self, beq_self_eq_true, h5]
          refine (c154 ho hle (by omega)).mono ?_
          rintro _ H5 ⟨rfl, o5, q5⟩
          simp (maxSteps := 1000000) (disch := first | exact sd | fail) only [go_sem, Nat.reduceAdd, Nat.reduceSub, Nat.reduceLeDiff, ↓reduceIte, decide_eq_true_eq, if_true, if_false, Bool.false_eq_true, Int.lt_irrefl, implies_true, true_and, and_true, eq_self, and_self, beq_self_eq_true, o5.bytes T.i140]
          unfold txt
          rw [if_neg (by omega), if_neg hs, hB]
          exact .rfl
    | succ k =>
      have hlen : (decL V ++ List.replicate (k + 1) (48 : Int)).length = (decL V).length + k + 1 := by simp; omega
      have hlast := last_rep (l := decL V) (k := k)
      have htake := take_rep (l := decL V) (k := k)
      generalize decL V ++ List.replicate (k + 1) (48 : Int) = L at *
      have a1 := ho.addr (k := .i64) (i := (L.length : Int) - 1) (by omega) (by omega)
      have g1 := ho.load (o := L.length - 1) (by omega)
      rw [show ((L.length : Int) - 1).toNat = L.length - 1 by omega] at a1
      obtain ⟨sl', u1, u2, u3⟩ := VO.upto ho Try.underlying104 T.z5 (k := .i64) (i := L.length - 1) (by omega)
      rw [htake] at u2
      rw [show ((L.length - 1 : Nat) : Int) = (L.length : Int) - 1 by omega] at u1
      simp (maxSteps := 1000000) (disch := first | exact sd | fail) only [go_sem, Nat.reduceAdd, Nat.reduceSub, Nat.reduceLeDiff, ↓reduceIte, decide_eq_true_eq, if_true, if_false, Bool.false_eq_true, Int.lt_irrefl, implies_true, true_and, and_true, eq_self, and_self, beq_self_eq_true, ho.len T.s5 T.i140, show (0 : Int) < L.length by omega, a1, g1, hlast, u1]
      exact IJ_intro (k := k) (by omega) (k, sl') rfl ⟨rfl, by dsimp only; omega, hle, u2⟩
  · have hp : (0 : Int) < (ln (A : Int) : Nat) := by
      have : ln (A : Int) ≠ 0 := fun h => hA0 (by have := ln_eq_zero.1 h; omega)
      omega
    have hjb := dec_bound hlt (j := 9 * j) (by rw [← hA]; exact hA0)
    have e0 : ((lmb (A : Int)).length : Int) = (ln (A : Int) : Nat) := rfl
    simp (maxSteps := 1000000) (disch := first | exact sd | fail) only [go_sem, Nat.reduceAdd, Nat.reduceSub, Nat.reduceLeDiff, ↓reduceIte, decide_eq_true_eq, if_true, if_false, Bool.false_eq_true, Int.lt_irrefl, implies_true, true_and, and_true, eq_self, and_self, beq_self_eq_true, e0, hp]
    refine PK.step (p146 (lb_z (z := (A : Int)) (by omega)) (by omega)) fun r m1 hr hm1 => ?_
    obtain ⟨o, rfl, ho1, ho2⟩ := hr
    rw [val_z, Int.natAbs_natCast] at ho2 ⊢
    simp (maxSteps := 1000000) (disch := first | exact sd | fail) only [go_sem, Nat.reduceAdd, Nat.reduceSub, Nat.reduceLeDiff, ↓reduceIte, decide_eq_true_eq, if_true, if_false, Bool.false_eq_true, Int.lt_irrefl, implies_true, true_and, and_true, eq_self, and_self, beq_self_eq_true]
    refine PC.step (p144 (n := false) ho1) fun m2 hm2 => ?_
    rw [if_neg (by decide), ho2]
    simp (maxSteps := 1000000) (disch := first | exact sd | fail) only [go_sem, Nat.reduceAdd, Nat.reduceSub, Nat.reduceLeDiff, ↓reduceIte, decide_eq_true_eq, if_true, if_false, Bool.false_eq_true, Int.lt_irrefl, implies_true, true_and, and_true, eq_self, and_self, beq_self_eq_true]
    generalize hR : A % 1000000000 = R
    rw [show (A : Int) % 1000000000 = (R : Nat) by omega, show (A : Int) / 1000000000 = (A / 1000000000 : Nat) by omega]
    refine aw_loopJ (σ := Nat × Value) (fun s J => [In n l, .pointer (some ⟨N, 0, none⟩), .string ByteArray.empty, s.2, Vv eU (lmb ((A / 1000000000 : Nat) : Int)), J 5, .int .u32 ((R / 10 ^ s.1 : Nat) : Int), J 7, J 8, J 9, J 10, J 11, J 12, J 13, J 14, J 15, J 16, J 17, J 18, J 19, J 20, J 21, .int .i64 s.1, J 23, J 24, J 25, J 26, J 27, J 28, J 29, J 30, J 31, J 32, J 33, J 34, J 35, J 36, J 37, J 38, J 39, J 40, J 41, J 42, J 43, J 44, J 45, J 46, J 47, J 48, J 49, J 50, J 51, J 52, J 53, J 54, J 55, J 56, J 57, J 58, J 59, J 60, J 61, J 62]) (fun m s H1 => m = 9 - s.1 ∧ s.1 ≤ 9 ∧ Hle HB H1 ∧ YO HB H1 s.2 (decP (9 * j) V ++ decP s.1 R)) 9 (0, sl) (by simp only [Nat.pow_zero, Nat.div_one]; rfl) ⟨rfl, Nat.zero_le _, (hle.bump hm1).bump hm2, (by simpa [decP] using ((ho.bump hm1).bump hm2))⟩ ?_
    clear hle ho
    rintro m ⟨k, sl⟩ J H1 ⟨rfl, hk, hle, ho⟩
    simp only at hk ho
    by_cases h9 : (k : Int) < 9
    · have h10 : 0 < 10 ^ k := Nat.pow_pos (by decide)
      have hRk : R / 10 ^ k < 4294967296 := Nat.lt_of_le_of_lt (Nat.div_le_self _ _) (by omega)
      generalize hx : R / 10 ^ k = x at *
      have f1 : IntKind.u8.wrap (IntKind.u32.wrap (48 + (x : Int).tmod 10)) = ((x % 10 : Nat) : Int) + 48 := by
        have e : (x : Int).tmod 10 = ((x % 10 : Nat) : Int) := (Int.ofNat_tmod x 10).symm
        rw [e, wrap_u32, wrap_u8]; omega
      have f2 : IntKind.u32.wrap ((x : Int).tdiv 10) = ((R / 10 ^ (k + 1) : Nat) : Int) := by
        have e : (x : Int).tdiv 10 = ((x / 10 : Nat) : Int) := (Int.ofNat_tdiv x 10).symm
        have e2 : R / 10 ^ (k + 1) = x / 10 := by rw [Nat.pow_succ, ← Nat.div_div_eq_div_mul, hx]
        rw [e, e2, wrap_u32]; omega
      obtain ⟨v, H4, ea, oa, qa, na⟩ := ho.append1 hle (((x % 10 : Nat) : Int) + 48) (by simp [decP_len]; omega)
      rw [List.append_assoc, ← hx, ← decP_succ] at oa
      simp (maxSteps := 1000000) (disch := first | exact sd | fail) only [go_sem, Nat.reduceAdd, Nat.reduceSub, Nat.reduceLeDiff, ↓reduceIte, decide_eq_true_eq, if_true, if_false, Bool.false_eq_true, Int.lt_irrefl, implies_true, true_and, and_true, eq_self, and_self, beq_self_eq_true, h9, f1, f2, ea]
      exact IJ_intro (k := 9 - (k + 1)) (by omega) (k + 1, v) rfl ⟨rfl, by dsimp only; omega, qa, oa⟩
    · have hk9 : k = 9 := by omega
      subst hk9
      simp (maxSteps := 1000000) (disch := first | exact sd | fail) only [go_sem, Nat.reduceAdd, Nat.reduceSub, Nat.reduceLeDiff, ↓reduceIte, decide_eq_true_eq, if_true, if_false, Bool.false_eq_true, Int.lt_irrefl, implies_true, true_and, and_true, eq_self, and_self, beq_self_eq_true, h9]
      have e1 : A / 1000000000 = V / 10 ^ (9 * (j + 1)) := by
        rw [hA, Nat.div_div_eq_div_mul, Nat.mul_add, Nat.pow_add]
      have e2 : decP (9 * j) V ++ decP 9 R = decP (9 * (j + 1)) V := by
        rw [Nat.mul_add, decP_add (9 * j) 9 V, ← hA]
        congr 1
        exact decP_mod 9 _ _ (by rw [← hR]; exact Nat.mod_mod _ _)
      rw [e2] at ho
      exact IJ_intro (k := A / 1000000000) (by omega) (j + 1, A / 1000000000, sl) rfl ⟨rfl, hle, ho, e1, by dsimp only; omega⟩
end Go.Abs

/- Strings: their bytes, places, parts. -/
set_option linter.unusedVariables false
set_option linter.unusedSimpArgs false
namespace Go.Abs
open Go Go.Proofs
set_option maxRecDepth 100000
set_option maxHeartbeats 4000000

/-- A text's bytes. -/
def chs (s : ByteArray) : List Int := s.data.toList.map fun b => (b.toNat : Int)
theorem chs_len (s : ByteArray) : (chs s).length = s.size := by
  unfold chs; rw [List.length_map, Array.length_toList]; rfl
theorem chs_bd (s : ByteArray) : ∀ x ∈ chs s, 0 ≤ x ∧ x < 256 := by
  intro x hx
  obtain ⟨b, _, rfl⟩ := List.mem_map.1 hx
  have := b.toNat_lt
  omega
theorem chs_getD_bd (s : ByteArray) (i : Nat) : 0 ≤ (chs s).getD i 0 ∧ (chs s).getD i 0 < 256 := by
  rcases Nat.lt_or_ge i (chs s).length with h | h
  · rw [List.getD_eq_getElem?_getD, List.getElem?_eq_getElem h]
    exact chs_bd s _ (List.getElem_mem h)
  · rw [List.getD_eq_getElem?_getD, List.getElem?_eq_none h]; exact ⟨Int.le_refl _, by decide⟩
theorem chs_inj {a b : ByteArray} (h : chs a = chs b) : a = b := by
  have h2 : a.data.toList = b.data.toList := by
    have hi : Function.Injective fun b : UInt8 => (b.toNat : Int) := fun x y e => UInt8.toNat_inj.1 (by exact Int.ofNat.inj e)
    exact (List.map_inj_right fun x y e => hi e).1 h
  have h3 : a.data = b.data := Array.toList_inj.1 h2
  cases a; cases b; cases h3; rfl
theorem push_chs (s : ByteArray) (b : UInt8) : chs (s.push b) = chs s ++ [(b.toNat : Int)] := by
  unfold chs
  show List.map _ (s.data.push b).toList = _
  rw [Array.toList_push, List.map_append]; rfl
theorem bsOf_go : ∀ (l : List Int) (s : ByteArray), (∀ x ∈ l, 0 ≤ x ∧ x < 256) → chs (l.foldl (fun r n => r.push (UInt8.ofNat n.toNat)) s) = chs s ++ l
  | [], s, _ => by simp
  | x :: l, s, h => by
    have hx := h x (by simp)
    rw [List.foldl_cons, bsOf_go l _ (fun y hy => h y (by simp [hy])), push_chs, List.append_assoc]
    have : ((UInt8.ofNat x.toNat).toNat : Int) = x := by
      rw [UInt8.toNat_ofNat']; omega
    rw [this]; rfl
theorem chs_bsOf {l : List Int} (h : ∀ x ∈ l, 0 ≤ x ∧ x < 256) : chs (bsOf l) = l := by
  unfold bsOf
  rw [bsOf_go l _ h]; rfl
theorem bsOf_chs (s : ByteArray) : bsOf (chs s) = s := chs_inj (chs_bsOf (chs_bd s))
theorem chs_empty : chs ByteArray.empty = [] := rfl
theorem chs_extract (s : ByteArray) (a : Nat) : chs (s.extract a s.size) = (chs s).drop a := by
  unfold chs
  have : (s.extract a s.size).data.toList = s.data.toList.drop a := by
    rw [ByteArray.data_extract, Array.toList_extract, List.extract_eq_take_drop]
    rw [List.take_of_length_le]
    rw [List.length_drop, Array.length_toList]
    exact Nat.le_refl _
  rw [this, List.map_drop]
theorem seql (a b : ByteArray) : (a.toList == b.toList) = decide (chs a = chs b) := by
  rw [ByteArray.toList_eq, ByteArray.toList_eq]
  by_cases h : a = b
  · subst h; simp
  · have h1 : ¬ chs a = chs b := fun e => h (chs_inj e)
    have h2 : ¬ a.data.toList = b.data.toList := fun e => h1 (by unfold chs; rw [e])
    rw [decide_eq_false h1, beq_eq_false_iff_ne]
    exact h2
theorem txt_bd (z : Int) : ∀ x ∈ txt z, 0 ≤ x ∧ x < 256 := by
  have h1 : ∀ n, ∀ x ∈ (decL n).reverse, 0 ≤ x ∧ x < 256 := fun n x hx => by
    have := decL_dig n x (List.mem_reverse.1 hx)
    unfold isDig at this; omega
  intro x hx
  unfold txt at hx
  split at hx
  · rcases List.mem_singleton.1 hx with rfl; decide
  · split at hx
    · rcases List.mem_cons.1 hx with rfl | hx
      · decide
      · exact h1 _ x hx
    · exact h1 _ x hx

variable {P : Program} {t : TypeId} {H : Heap}
theorem semPure_und {d : TypeDesc} (hu : P.underlying t = some d) : semPure P (underlying t) = some d := by
  simp [underlying, program, semPure, bind, Sem.bind, pure, hu]
theorem ln_str {s : ByteArray} (hu : P.underlying t = some .string) : aLen P t (.string s) = some (.int .i64 (chs s).length) := by
  simp only [aLen, hu, chs_len]; rfl
theorem ix_str {s : ByteArray} (hu : P.underlying t = some .string) {k : IntKind} {i : Int} (h0 : 0 ≤ i) (h1 : i < (chs s).length) : aIndex P t (.string s) (.int k i) = some (.int .u8 ((chs s).getD i.toNat 0)) := by
  rw [chs_len] at h1
  have hi : i.toNat < s.size := by omega
  have e : s[i.toNat]? = some s[i.toNat] := getElem?_pos s i.toNat hi
  have e2 : ((s[i.toNat]).toNat : Int) = (chs s).getD i.toNat 0 := by
    unfold chs
    rw [List.getD_eq_getElem?_getD, List.getElem?_map, List.getElem?_eq_getElem (by rw [Array.length_toList]; exact hi)]
    rfl
  have : semPure P (Instr.index t (.string s) (.int k i)) = some (.int .u8 ((chs s).getD i.toNat 0)) := by
    refine (semPure_bind _ _ (semPure_und hu)).trans ?_
    simp only [if_pos h0, e, e2]; rfl
  simp only [aIndex, gr_int, if_true, scal, this, gr, ground]
theorem sl_str {s : ByteArray} (hu : P.underlying t = some .string) {k : IntKind} {i : Int} (h0 : 0 ≤ i) (h1 : i ≤ (chs s).length) : aSlice P H t (.string s) (some (.int k i)) none none = some (.string (s.extract i.toNat s.size)) := by
  rw [chs_len] at h1
  have : semPure P (Instr.sliceAt t (.string s) (some (.int k i)) none none) = some (.string (s.extract i.toNat s.size)) := by
    refine (semPure_bind _ _ (semPure_und hu)).trans ?_
    refine (semPure_bind _ _ (semPure_und hu)).trans ?_
    simp [Instr.sliceBounds, Instr.sliceBound, asIntOf, semPure, bind, Sem.bind, pure, h0, h1]
  simp [aSlice, hu, gr_int, scal, this, gr, ground]
end Go.Abs

/- num.form: calls of values. -/
set_option linter.unusedVariables false
set_option linter.unusedSimpArgs false
namespace Go.Abs
open Go Go.Proofs
set_option maxRecDepth 100000
set_option maxHeartbeats 4000000

/-- A number's digits, its sign off. -/
def dgs (l : List Int) : List Int := if l.headD 0 = 45 then l.drop 1 else l
/-- A number's text. -/
def okN (l : List Int) : Bool := decide (dgs l ≠ [] ∧ ¬ ((dgs l).headD 0 = 48 ∧ (1 < (dgs l).length ∨ l.headD 0 = 45)) ∧ ((dgs l).all fun x => decide (48 ≤ x ∧ x ≤ 57)) = true)
theorem dgs_len (l : List Int) : (dgs l).length ≤ l.length := by
  unfold dgs; split
  · rw [List.length_drop]; omega
  · exact Nat.le_refl _
theorem hd_getD (l : List Int) : l.headD 0 = l.getD 0 0 := by cases l <;> rfl
theorem pos_ne {l : List Int} (h : l ≠ []) : 0 < l.length := List.length_pos_iff.2 h


theorem p152 {s : ByteArray} (hs : s.size ≤ 2 ^ 40) : PC Try.prog 113 [.string s] (.bool (okN (chs s))) := by
  refine PC.of (.cons (.ground rfl) .nil) (.ground rfl) fun N hN => ?_
  have hl := ln_str (P := Try.prog) (s := s) Try.underlying9
  have hi := ix_str (P := Try.prog) (s := s) (k := .i64) (i := 0) Try.underlying9 (by omega)
  have hc := chs_len s
  rw [show (0 : Int).toNat = 0 from rfl] at hi
  obtain ⟨L, hL⟩ : ∃ L, L = chs s := ⟨_, rfl⟩
  rw [← hL] at hl hi hc ⊢
  refine ACalls.of_code T.hm (n := 46) Try.func113 rfl rfl rfl rfl ?_; simp only [List.replicate_succ, List.replicate_zero, List.cons_append, List.nil_append]
  by_cases hn : L = []
  · simp (maxSteps := 1000000) (disch := first | exact sd | fail) only [go_sem, Nat.reduceAdd, Nat.reduceSub, Nat.reduceLeDiff, ↓reduceIte, decide_eq_true_eq, if_true, if_false, Bool.false_eq_true, Int.lt_irrefl, implies_true, true_and, and_true, eq_self, and_self, beq_self_eq_true, hl, hn, List.length_nil, Int.natCast_zero, bin_seql, seql, ← hL, show chs { data := #[] } = [] from rfl, decide_true]
    subst hn
    exact .rfl
  have hLp := pos_ne hn
  by_cases h45 : L.getD 0 0 = 45
  · have hsl := sl_str (P := Try.prog) (H := E0 N) (s := s) (k := .i64) (i := 1) Try.underlying9 (by omega) (by rw [← hL]; omega)
    rw [show (1 : Int).toNat = 1 from rfl] at hsl
    simp (maxSteps := 1000000) (disch := first | exact sd | fail) only [go_sem, Nat.reduceAdd, Nat.reduceSub, Nat.reduceLeDiff, ↓reduceIte, decide_eq_true_eq, if_true, if_false, Bool.false_eq_true, Int.lt_irrefl, implies_true, true_and, and_true, eq_self, and_self, beq_self_eq_true, hl, hi, h45, hsl, show (0 : Int) < L.length by omega]
    have hdd : dgs L = chs (s.extract 1 s.size) := by rw [chs_extract, ← hL]; unfold dgs; rw [if_pos (by rw [hd_getD]; exact h45)]
    obtain ⟨hb, hbe⟩ : ∃ hb, hb = true := ⟨_, rfl⟩
    have hhb : (L.headD 0 = 45) = (hb = true) := by rw [hd_getD, h45, hbe]; simp
    have hln := ln_str (P := Try.prog) (s := (s.extract 1 s.size)) Try.underlying9
    have hix := fun (k : IntKind) (i : Int) => ix_str (P := Try.prog) (s := (s.extract 1 s.size)) (k := k) (i := i) Try.underlying9
    have hsz := chs_len (s.extract 1 s.size)
    have hel : (ByteArray.toList (s.extract 1 s.size) == ByteArray.toList { data := #[] }) = decide (chs (s.extract 1 s.size) = []) := by rw [seql]; rfl
    generalize hD : chs (s.extract 1 s.size) = D at *
    have hdl : D.length ≤ 2 ^ 40 := by
      have h1 := dgs_len L
      rw [hdd] at h1; omega
    by_cases hd0 : D = []
    · have : okN L = false := by simp only [okN, hdd, hd0, ne_eq, not_true, false_and, decide_false]
      rw [this]
      simp (maxSteps := 1000000) (disch := first | exact sd | fail) only [go_sem, Nat.reduceAdd, Nat.reduceSub, Nat.reduceLeDiff, ↓reduceIte, decide_eq_true_eq, if_true, if_false, Bool.false_eq_true, Int.lt_irrefl, implies_true, true_and, and_true, eq_self, and_self, beq_self_eq_true, bin_seql, hel, hd0, decide_true]
      exact .rfl
    have hp := pos_ne hd0
    have h00 := hix .i64 0 (by omega) (by omega)
    rw [show (0 : Int).toNat = 0 from rfl] at h00
    by_cases hz : D.getD 0 0 = 48 ∧ (1 < D.length ∨ hb = true)
    · have : okN L = false := by
        simp only [okN, hdd, hd_getD D, hz.1, hhb, hz.2, true_and, not_true, false_and, and_false, decide_false, ne_eq]
      rw [this]
      by_cases h2 : (1 : Int) < D.length
      · simp (maxSteps := 1000000) (disch := first | exact sd | fail) only [go_sem, Nat.reduceAdd, Nat.reduceSub, Nat.reduceLeDiff, ↓reduceIte, decide_eq_true_eq, if_true, if_false, Bool.false_eq_true, Int.lt_irrefl, implies_true, true_and, and_true, eq_self, and_self, beq_self_eq_true, bin_seql, hel, hd0, decide_false, h00, hz.1, hln, h2]
        exact .rfl
      · have hb1 : hb = true := by rcases hz.2 with h | h; omega; exact h
        simp (maxSteps := 1000000) (disch := first | exact sd | fail) only [go_sem, Nat.reduceAdd, Nat.reduceSub, Nat.reduceLeDiff, ↓reduceIte, decide_eq_true_eq, if_true, if_false, Bool.false_eq_true, Int.lt_irrefl, implies_true, true_and, and_true, eq_self, and_self, beq_self_eq_true, bin_seql, hel, hd0, decide_false, h00, hz.1, hln, h2]
        exact .rfl
    have key : okN L = D.all (fun x => decide (48 ≤ x ∧ x ≤ 57)) := by
      simp only [okN, hdd, hd_getD D, hhb, ne_eq, hd0, hz, not_false_eq_true, true_and, Bool.decide_eq_true]
    rw [key]
    have h48 : ¬ D.getD 0 0 = 48 := fun h => hz ⟨h, .inr hbe⟩
    simp (maxSteps := 1000000) (disch := first | exact sd | fail) only [go_sem, Nat.reduceAdd, Nat.reduceSub, Nat.reduceLeDiff, ↓reduceIte, decide_eq_true_eq, if_true, if_false, Bool.false_eq_true, Int.lt_irrefl, implies_true, true_and, and_true, eq_self, and_self, beq_self_eq_true, bin_seql, hel, hd0, decide_false, h00, h48, hln]
    refine aw_loopS (σ := Nat) (fun k J => [.string (s.extract 1 s.size), J 1, .bool false, J 3, J 4, J 5, J 6, J 7, J 8, J 9, J 10, J 11, J 12, J 13, J 14, J 15, J 16, J 17, J 18, J 19, J 20, J 21, J 22, J 23, J 24, J 25, J 26, J 27, J 28, J 29, J 30, J 31, .int .i64 D.length, .int .i64 k, J 34, J 35, J 36, J 37, J 38, J 39, J 40, J 41, J 42, J 43, J 44, J 45, J 46]) (fun m k => m = D.length - k ∧ k ≤ D.length ∧ ∀ i, i < k → isDig (D.getD i 0)) D.length 0 rfl ⟨rfl, Nat.zero_le _, fun i hi => by omega⟩ ?_
    rintro m k J ⟨rfl, hk, hall⟩
    by_cases h4 : (k : Int) < D.length
    · have hx := hix .i64 k (by omega) h4
      rw [Int.toNat_natCast] at hx
      have hkl : k < D.length := by omega
      have hbad : ¬ isDig (D.getD k 0) → D.all (fun x => decide (48 ≤ x ∧ x ≤ 57)) = false := fun h => by
        rw [List.all_eq_false]
        refine ⟨D.getD k 0, ?_, by simpa [isDig] using h⟩
        rw [List.getD_eq_getElem?_getD, List.getElem?_eq_getElem hkl]; exact List.getElem_mem hkl
      by_cases h5 : D.getD k 0 < 48
      · rw [hbad (by unfold isDig; omega)]
        simp (maxSteps := 1000000) (disch := first | exact sd | fail) only [go_sem, Nat.reduceAdd, Nat.reduceSub, Nat.reduceLeDiff, ↓reduceIte, decide_eq_true_eq, if_true, if_false, Bool.false_eq_true, Int.lt_irrefl, implies_true, true_and, and_true, eq_self, and_self, beq_self_eq_true, h4, hx, h5]
        exact .rfl
      · by_cases h6 : 57 < D.getD k 0
        · rw [hbad (by unfold isDig; omega)]
          simp (maxSteps := 1000000) (disch := first | exact sd | fail) only [go_sem, Nat.reduceAdd, Nat.reduceSub, Nat.reduceLeDiff, ↓reduceIte, decide_eq_true_eq, if_true, if_false, Bool.false_eq_true, Int.lt_irrefl, implies_true, true_and, and_true, eq_self, and_self, beq_self_eq_true, h4, hx, h5, h6]
          exact .rfl
        · simp (maxSteps := 1000000) (disch := first | exact sd | fail) only [go_sem, Nat.reduceAdd, Nat.reduceSub, Nat.reduceLeDiff, ↓reduceIte, decide_eq_true_eq, if_true, if_false, Bool.false_eq_true, Int.lt_irrefl, implies_true, true_and, and_true, eq_self, and_self, beq_self_eq_true, h4, hx, h5, h6]
          refine IJ_intro (k := D.length - (k + 1)) (by omega) (k + 1) rfl ⟨⟨rfl, by omega, fun i hi => ?_⟩, rfl⟩
          by_cases h7 : i = k
          · subst h7; unfold isDig; omega
          · exact hall i (by omega)
    · have hgood : D.all (fun x => decide (48 ≤ x ∧ x ≤ 57)) = true := by
        rw [List.all_eq_true]
        intro x hx
        obtain ⟨i, hi, rfl⟩ := List.getElem_of_mem hx
        have := hall i (by omega)
        rw [List.getD_eq_getElem?_getD, List.getElem?_eq_getElem hi] at this
        simpa [isDig] using this
      rw [hgood]
      simp (maxSteps := 1000000) (disch := first | exact sd | fail) only [go_sem, Nat.reduceAdd, Nat.reduceSub, Nat.reduceLeDiff, ↓reduceIte, decide_eq_true_eq, if_true, if_false, Bool.false_eq_true, Int.lt_irrefl, implies_true, true_and, and_true, eq_self, and_self, beq_self_eq_true, h4]
      exact .rfl
  · simp (maxSteps := 1000000) (disch := first | exact sd | fail) only [go_sem, Nat.reduceAdd, Nat.reduceSub, Nat.reduceLeDiff, ↓reduceIte, decide_eq_true_eq, if_true, if_false, Bool.false_eq_true, Int.lt_irrefl, implies_true, true_and, and_true, eq_self, and_self, beq_self_eq_true, hl, hi, h45, show (0 : Int) < L.length by omega]
    have hdd : dgs L = chs s := by rw [← hL]; unfold dgs; rw [if_neg (by rw [hd_getD]; exact h45)]
    obtain ⟨hb, hbe⟩ : ∃ hb, hb = false := ⟨_, rfl⟩
    have hhb : (L.headD 0 = 45) = (hb = true) := by rw [hd_getD, hbe]; exact propext ⟨fun h => absurd h h45, fun h => by cases h⟩
    clear hl hi
    have hln := ln_str (P := Try.prog) (s := s) Try.underlying9
    have hix := fun (k : IntKind) (i : Int) => ix_str (P := Try.prog) (s := s) (k := k) (i := i) Try.underlying9
    have hsz := chs_len s
    have hel : (ByteArray.toList s == ByteArray.toList { data := #[] }) = decide (chs s = []) := by rw [seql]; rfl
    generalize hD : chs s = D at *
    have hdl : D.length ≤ 2 ^ 40 := by
      have h1 := dgs_len L
      rw [hdd] at h1; omega
    by_cases hd0 : D = []
    · have : okN L = false := by simp only [okN, hdd, hd0, ne_eq, not_true, false_and, decide_false]
      rw [this]
      simp (maxSteps := 1000000) (disch := first | exact sd | fail) only [go_sem, Nat.reduceAdd, Nat.reduceSub, Nat.reduceLeDiff, ↓reduceIte, decide_eq_true_eq, if_true, if_false, Bool.false_eq_true, Int.lt_irrefl, implies_true, true_and, and_true, eq_self, and_self, beq_self_eq_true, bin_seql, hel, hd0, decide_true]
      exact .rfl
    have hp := pos_ne hd0
    have h00 := hix .i64 0 (by omega) (by omega)
    rw [show (0 : Int).toNat = 0 from rfl] at h00
    by_cases hz : D.getD 0 0 = 48 ∧ (1 < D.length ∨ hb = true)
    · have : okN L = false := by
        simp only [okN, hdd, hd_getD D, hz.1, hhb, hz.2, true_and, not_true, false_and, and_false, decide_false, ne_eq]
      rw [this]
      by_cases h2 : (1 : Int) < D.length
      · simp (maxSteps := 1000000) (disch := first | exact sd | fail) only [go_sem, Nat.reduceAdd, Nat.reduceSub, Nat.reduceLeDiff, ↓reduceIte, decide_eq_true_eq, if_true, if_false, Bool.false_eq_true, Int.lt_irrefl, implies_true, true_and, and_true, eq_self, and_self, beq_self_eq_true, bin_seql, hel, hd0, decide_false, h00, hz.1, hln, h2]
        exact .rfl
      · have hb1 : hb = true := by rcases hz.2 with h | h; omega; exact h
        exact absurd (hbe.symm.trans hb1) (by decide)
    have key : okN L = D.all (fun x => decide (48 ≤ x ∧ x ≤ 57)) := by
      simp only [okN, hdd, hd_getD D, hhb, ne_eq, hd0, hz, not_false_eq_true, true_and, Bool.decide_eq_true]
    rw [key]
    by_cases h48 : D.getD 0 0 = 48
    · have h2 : ¬ (1 : Int) < D.length := fun h => hz ⟨h48, .inl (by omega)⟩
      simp (maxSteps := 1000000) (disch := first | exact sd | fail) only [go_sem, Nat.reduceAdd, Nat.reduceSub, Nat.reduceLeDiff, ↓reduceIte, decide_eq_true_eq, if_true, if_false, Bool.false_eq_true, Int.lt_irrefl, implies_true, true_and, and_true, eq_self, and_self, beq_self_eq_true, bin_seql, hel, hd0, decide_false, h00, h48, hln, h2]
      refine aw_loopS (σ := Nat) (fun k J => [.string s, J 1, .bool false, J 3, J 4, J 5, J 6, J 7, J 8, J 9, J 10, J 11, J 12, J 13, J 14, J 15, J 16, J 17, J 18, J 19, J 20, J 21, J 22, J 23, J 24, J 25, J 26, J 27, J 28, J 29, J 30, J 31, .int .i64 D.length, .int .i64 k, J 34, J 35, J 36, J 37, J 38, J 39, J 40, J 41, J 42, J 43, J 44, J 45, J 46]) (fun m k => m = D.length - k ∧ k ≤ D.length ∧ ∀ i, i < k → isDig (D.getD i 0)) D.length 0 rfl ⟨rfl, Nat.zero_le _, fun i hi => by omega⟩ ?_
      rintro m k J ⟨rfl, hk, hall⟩
      by_cases h4 : (k : Int) < D.length
      · have hx := hix .i64 k (by omega) h4
        rw [Int.toNat_natCast] at hx
        have hkl : k < D.length := by omega
        have hbad : ¬ isDig (D.getD k 0) → D.all (fun x => decide (48 ≤ x ∧ x ≤ 57)) = false := fun h => by
          rw [List.all_eq_false]
          refine ⟨D.getD k 0, ?_, by simpa [isDig] using h⟩
          rw [List.getD_eq_getElem?_getD, List.getElem?_eq_getElem hkl]; exact List.getElem_mem hkl
        by_cases h5 : D.getD k 0 < 48
        · rw [hbad (by unfold isDig; omega)]
          simp (maxSteps := 1000000) (disch := first | exact sd | fail) only [go_sem, Nat.reduceAdd, Nat.reduceSub, Nat.reduceLeDiff, ↓reduceIte, decide_eq_true_eq, if_true, if_false, Bool.false_eq_true, Int.lt_irrefl, implies_true, true_and, and_true, eq_self, and_self, beq_self_eq_true, h4, hx, h5]
          exact .rfl
        · by_cases h6 : 57 < D.getD k 0
          · rw [hbad (by unfold isDig; omega)]
            simp (maxSteps := 1000000) (disch := first | exact sd | fail) only [go_sem, Nat.reduceAdd, Nat.reduceSub, Nat.reduceLeDiff, ↓reduceIte, decide_eq_true_eq, if_true, if_false, Bool.false_eq_true, Int.lt_irrefl, implies_true, true_and, and_true, eq_self, and_self, beq_self_eq_true, h4, hx, h5, h6]
            exact .rfl
          · simp (maxSteps := 1000000) (disch := first | exact sd | fail) only [go_sem, Nat.reduceAdd, Nat.reduceSub, Nat.reduceLeDiff, ↓reduceIte, decide_eq_true_eq, if_true, if_false, Bool.false_eq_true, Int.lt_irrefl, implies_true, true_and, and_true, eq_self, and_self, beq_self_eq_true, h4, hx, h5, h6]
            refine IJ_intro (k := D.length - (k + 1)) (by omega) (k + 1) rfl ⟨⟨rfl, by omega, fun i hi => ?_⟩, rfl⟩
            by_cases h7 : i = k
            · subst h7; unfold isDig; omega
            · exact hall i (by omega)
      · have hgood : D.all (fun x => decide (48 ≤ x ∧ x ≤ 57)) = true := by
          rw [List.all_eq_true]
          intro x hx
          obtain ⟨i, hi, rfl⟩ := List.getElem_of_mem hx
          have := hall i (by omega)
          rw [List.getD_eq_getElem?_getD, List.getElem?_eq_getElem hi] at this
          simpa [isDig] using this
        rw [hgood]
        simp (maxSteps := 1000000) (disch := first | exact sd | fail) only [go_sem, Nat.reduceAdd, Nat.reduceSub, Nat.reduceLeDiff, ↓reduceIte, decide_eq_true_eq, if_true, if_false, Bool.false_eq_true, Int.lt_irrefl, implies_true, true_and, and_true, eq_self, and_self, beq_self_eq_true, h4]
        exact .rfl
    · simp (maxSteps := 1000000) (disch := first | exact sd | fail) only [go_sem, Nat.reduceAdd, Nat.reduceSub, Nat.reduceLeDiff, ↓reduceIte, decide_eq_true_eq, if_true, if_false, Bool.false_eq_true, Int.lt_irrefl, implies_true, true_and, and_true, eq_self, and_self, beq_self_eq_true, bin_seql, hel, hd0, decide_false, h00, h48, hln]
      refine aw_loopS (σ := Nat) (fun k J => [.string s, J 1, .bool false, J 3, J 4, J 5, J 6, J 7, J 8, J 9, J 10, J 11, J 12, J 13, J 14, J 15, J 16, J 17, J 18, J 19, J 20, J 21, J 22, J 23, J 24, J 25, J 26, J 27, J 28, J 29, J 30, J 31, .int .i64 D.length, .int .i64 k, J 34, J 35, J 36, J 37, J 38, J 39, J 40, J 41, J 42, J 43, J 44, J 45, J 46]) (fun m k => m = D.length - k ∧ k ≤ D.length ∧ ∀ i, i < k → isDig (D.getD i 0)) D.length 0 rfl ⟨rfl, Nat.zero_le _, fun i hi => by omega⟩ ?_
      rintro m k J ⟨rfl, hk, hall⟩
      by_cases h4 : (k : Int) < D.length
      · have hx := hix .i64 k (by omega) h4
        rw [Int.toNat_natCast] at hx
        have hkl : k < D.length := by omega
        have hbad : ¬ isDig (D.getD k 0) → D.all (fun x => decide (48 ≤ x ∧ x ≤ 57)) = false := fun h => by
          rw [List.all_eq_false]
          refine ⟨D.getD k 0, ?_, by simpa [isDig] using h⟩
          rw [List.getD_eq_getElem?_getD, List.getElem?_eq_getElem hkl]; exact List.getElem_mem hkl
        by_cases h5 : D.getD k 0 < 48
        · rw [hbad (by unfold isDig; omega)]
          simp (maxSteps := 1000000) (disch := first | exact sd | fail) only [go_sem, Nat.reduceAdd, Nat.reduceSub, Nat.reduceLeDiff, ↓reduceIte, decide_eq_true_eq, if_true, if_false, Bool.false_eq_true, Int.lt_irrefl, implies_true, true_and, and_true, eq_self, and_self, beq_self_eq_true, h4, hx, h5]
          exact .rfl
        · by_cases h6 : 57 < D.getD k 0
          · rw [hbad (by unfold isDig; omega)]
            simp (maxSteps := 1000000) (disch := first | exact sd | fail) only [go_sem, Nat.reduceAdd, Nat.reduceSub, Nat.reduceLeDiff, ↓reduceIte, decide_eq_true_eq, if_true, if_false, Bool.false_eq_true, Int.lt_irrefl, implies_true, true_and, and_true, eq_self, and_self, beq_self_eq_true, h4, hx, h5, h6]
            exact .rfl
          · simp (maxSteps := 1000000) (disch := first | exact sd | fail) only [go_sem, Nat.reduceAdd, Nat.reduceSub, Nat.reduceLeDiff, ↓reduceIte, decide_eq_true_eq, if_true, if_false, Bool.false_eq_true, Int.lt_irrefl, implies_true, true_and, and_true, eq_self, and_self, beq_self_eq_true, h4, hx, h5, h6]
            refine IJ_intro (k := D.length - (k + 1)) (by omega) (k + 1) rfl ⟨⟨rfl, by omega, fun i hi => ?_⟩, rfl⟩
            by_cases h7 : i = k
            · subst h7; unfold isDig; omega
            · exact hall i (by omega)
      · have hgood : D.all (fun x => decide (48 ≤ x ∧ x ≤ 57)) = true := by
          rw [List.all_eq_true]
          intro x hx
          obtain ⟨i, hi, rfl⟩ := List.getElem_of_mem hx
          have := hall i (by omega)
          rw [List.getD_eq_getElem?_getD, List.getElem?_eq_getElem hi] at this
          simpa [isDig] using this
        rw [hgood]
        simp (maxSteps := 1000000) (disch := first | exact sd | fail) only [go_sem, Nat.reduceAdd, Nat.reduceSub, Nat.reduceLeDiff, ↓reduceIte, decide_eq_true_eq, if_true, if_false, Bool.false_eq_true, Int.lt_irrefl, implies_true, true_and, and_true, eq_self, and_self, beq_self_eq_true, h4]
        exact .rfl
end Go.Abs

/- num.Read: a call of values. -/
set_option linter.unusedVariables false
set_option linter.unusedSimpArgs false
namespace Go.Abs
open Go Go.Proofs
set_option maxRecDepth 100000
set_option maxHeartbeats 4000000

/-- The digits of a text that is a number's. -/
def fl (l : List Int) : List Int := l.filter fun x => decide (x ≠ 45)
def zdN (l : List Int) : Int := if l.headD 0 = 45 then -(rdL (dgs l) 0 : Nat) else (rdL (dgs l) 0 : Nat)
def rdV (l : List Int) : Int := if 5000 < l.length then 0 else if okN l = true then zdN l else 0
def rdE (l : List Int) : Int := if 5000 < l.length then 2 else if okN l = true then 0 else 4
theorem okN_dig {l : List Int} (h : okN l = true) : ∀ x ∈ dgs l, isDig x := by
  simp only [okN, decide_eq_true_eq] at h
  intro x hx
  simpa [isDig] using List.all_eq_true.1 h.2.2 x hx
theorem okN_ne {l : List Int} (h : okN l = true) : dgs l ≠ [] := by
  simp only [okN, decide_eq_true_eq] at h
  exact h.1
theorem okN_fl {l : List Int} (h : okN l = true) : fl l = dgs l := by
  have hd := okN_dig h
  have e : (dgs l).filter (fun x => decide (x ≠ 45)) = dgs l := by
    rw [List.filter_eq_self]
    intro x hx
    have := hd x hx
    unfold isDig at this
    simp only [decide_eq_true_eq]; omega
  unfold fl
  unfold dgs at e hd ⊢
  cases l with
  | nil => rfl
  | cons a l =>
    simp only [List.headD_cons, List.drop_succ_cons, List.drop_zero] at e hd ⊢
    by_cases ha : a = 45
    · rw [if_pos ha] at e ⊢
      rw [List.filter_cons_of_neg (by simp [ha]), e]
    · rw [if_neg ha] at e ⊢
      exact e
theorem okN_mem {l : List Int} (h : okN l = true) {x : Int} (hx : x ∈ l) : x = 45 ∨ isDig x := by
  by_cases h5 : x = 45
  · exact .inl h5
  · refine .inr (okN_dig h x ?_)
    rw [← okN_fl h]
    unfold fl
    rw [List.mem_filter]
    exact ⟨hx, by simpa using h5⟩
theorem fl_take {l : List Int} {i : Nat} (hi : i < l.length) : fl (l.take (i + 1)) = fl (l.take i) ++ (if l.getD i 0 = 45 then [] else [l.getD i 0]) := by
  have e : l.getD i 0 = l[i] := by rw [List.getD_eq_getElem?_getD, List.getElem?_eq_getElem hi]; rfl
  rw [e, List.take_add_one, List.getElem?_eq_getElem hi]
  unfold fl
  rw [List.filter_append]
  congr 1
  show List.filter _ [l[i]] = _
  by_cases h : l[i] = 45
  · rw [if_pos h, List.filter_cons_of_neg (by simp [h])]; rfl
  · rw [if_neg h, List.filter_cons_of_pos (by simp [h])]; rfl
theorem set_mid {a b : List Int} {x y : Int} : (a ++ x :: b).set a.length y = a ++ y :: b := by
  rw [List.set_append_right _ _ (Nat.le_refl _), Nat.sub_self]; rfl
theorem get_mid {a b : List Int} {x : Int} : (a ++ x :: b).getD a.length 0 = x := by
  rw [List.getD_eq_getElem?_getD, List.getElem?_append_right (Nat.le_refl _), Nat.sub_self]; rfl
theorem mul_step {B D c y v V : Int} (h : D + B * (c + 10 * (y + 4294967296 * v)) = V) : D + B * ((c + y * 10) % 4294967296) + 4294967296 * B * ((c + y * 10) / 4294967296 + 10 * v) = V := by
  have e := Int.mul_ediv_add_emod (c + y * 10) 4294967296
  generalize (c + y * 10) / 4294967296 = q at *
  generalize (c + y * 10) % 4294967296 = r at *
  rw [← h, show c + 10 * (y + 4294967296 * v) = r + 4294967296 * (q + 10 * v) by omega, Int.mul_add B, ← Int.mul_assoc B, Int.mul_comm B 4294967296, Int.add_assoc]

theorem pu_rd {z e : Int} : Pu (.tuple ⟨[Zn z, .int .i64 e]⟩) := .tuple (.cons pu_in (.cons (.ground rfl) .nil))
theorem p56 {s : ByteArray} (hs : s.size ≤ 2 ^ 40) : PC Try.prog 108 [.string s] (.tuple ⟨[Zn (rdV (chs s)), .int .i64 (rdE (chs s))]⟩) := by
  refine PC.of (.cons (.ground rfl) .nil) pu_rd fun N hN => ?_
  have hl := ln_str (P := Try.prog) (s := s) Try.underlying9
  have hix := fun (k : IntKind) (i : Int) => ix_str (P := Try.prog) (s := s) (k := k) (i := i) Try.underlying9
  have hc := chs_len s
  have q152 := p152 hs
  generalize hL : chs s = L at *
  refine ACalls.of_code T.hm (n := 65) Try.func108 rfl rfl rfl rfl ?_; simp only [List.replicate_succ, List.replicate_zero, List.cons_append, List.nil_append]
  by_cases h5 : (5000 : Int) < L.length
  · simp (maxSteps := 1000000) (disch := first | exact sd | fail) only [go_sem, Nat.reduceAdd, Nat.reduceSub, Nat.reduceLeDiff, ↓reduceIte, decide_eq_true_eq, if_true, if_false, Bool.false_eq_true, Int.lt_irrefl, implies_true, true_and, and_true, eq_self, and_self, beq_self_eq_true, hl, h5]
    rw [rdV, rdE, if_pos (show 5000 < L.length by omega), if_pos (show 5000 < L.length by omega), lmb_zero]
    exact .tuple (.cons fz_nil (.cons .rfl .nil))
  · simp (maxSteps := 1000000) (disch := first | exact sd | fail) only [go_sem, Nat.reduceAdd, Nat.reduceSub, Nat.reduceLeDiff, ↓reduceIte, decide_eq_true_eq, if_true, if_false, Bool.false_eq_true, Int.lt_irrefl, implies_true, true_and, and_true, eq_self, and_self, beq_self_eq_true, hl, h5]
    refine PC.step (q152) fun m1 j1 => ?_
    try simp only [Heap.next_push, Heap.next_set, Heap.next_kill, next_bump, next_E0] at j1
    cases hok : okN L with
    | false =>
      simp (maxSteps := 1000000) (disch := first | exact sd | fail) only [go_sem, Nat.reduceAdd, Nat.reduceSub, Nat.reduceLeDiff, ↓reduceIte, decide_eq_true_eq, if_true, if_false, Bool.false_eq_true, Int.lt_irrefl, implies_true, true_and, and_true, eq_self, and_self, beq_self_eq_true]
      rw [rdV, rdE, if_neg (show ¬ 5000 < L.length by omega), if_neg (show ¬ 5000 < L.length by omega), hok, if_neg (by decide), if_neg (by decide), lmb_zero]
      exact .tuple (.cons fz_nil (.cons .rfl .nil))
    | true =>
      simp (maxSteps := 1000000) (disch := first | exact sd | fail) only [go_sem, Nat.reduceAdd, Nat.reduceSub, Nat.reduceLeDiff, ↓reduceIte, decide_eq_true_eq, if_true, if_false, Bool.false_eq_true, Int.lt_irrefl, implies_true, true_and, and_true, eq_self, and_self, beq_self_eq_true, hl]
      rw [rdV, rdE, if_neg (show ¬ 5000 < L.length by omega), if_neg (show ¬ 5000 < L.length by omega), hok, if_pos rfl, if_pos rfl]
      generalize hH0 : (E0 N).push (.row true 24 [.bool false, .slice none 0 0]) = HB at *
      have hBn : HB.next = N + 1 := by rw [← hH0, next_push, next_E0]
      have hBg : HB.get N = some (.row true 24 [.bool false, .slice none 0 0]) := by rw [← hH0]; exact get_push_self _ _
      refine aw_loopJ (σ := Nat × Value × List Int) (fun st J => [.string s, J 1, .pointer (some ⟨N, 0, none⟩), .int .i64 0, st.2.1, J 5, J 6, J 7, J 8, J 9, J 10, J 11, J 12, J 13, J 14, J 15, J 16, J 17, J 18, J 19, .int .i64 L.length, .int .i64 st.1, J 22, J 23, J 24, J 25, J 26, J 27, J 28, J 29, J 30, J 31, J 32, J 33, J 34, J 35, J 36, J 37, J 38, J 39, J 40, J 41, J 42, J 43, J 44, J 45, J 46, J 47, J 48, J 49, J 50, J 51, J 52, J 53, J 54, J 55, J 56, J 57, J 58, J 59, J 60, J 61, J 62, J 63, J 64, J 65]) (fun m st H1 => m = L.length - st.1 ∧ st.1 ≤ L.length ∧ Hle HB H1 ∧ UO Try.prog HB H1 st.2.1 st.2.2 ∧ Lim st.2.2 ∧ st.2.2.length ≤ st.1 ∧ val st.2.2 = rdL (fl (L.take st.1)) 0) L.length (0, .slice none 0 0, []) rfl ⟨rfl, Nat.zero_le _, Hle.rfl.bump (by omega), Ow.nil, Lim.nil, Nat.le_refl _, by simp [fl, rdL, val]⟩ ?_
      rintro m ⟨i, sl, l⟩ J H1 ⟨rfl, hi, hle, ho, hlim, hll, hv⟩
      simp only at hi ho hlim hll hv
      by_cases h4 : (i : Int) < L.length
      · have hil : i < L.length := by omega
        have hx := hix .i64 i (by omega) h4
        rw [Int.toNat_natCast] at hx
        have hft := fl_take hil
        have hmem : L.getD i 0 = 45 ∨ isDig (L.getD i 0) := by
          refine okN_mem hok ?_
          rw [List.getD_eq_getElem?_getD, List.getElem?_eq_getElem hil]; exact List.getElem_mem hil
        generalize L.getD i 0 = x at *
        by_cases h45 : x = 45
        · rw [if_pos h45, List.append_nil] at hft
          simp (maxSteps := 1000000) (disch := first | exact sd | fail) only [go_sem, Nat.reduceAdd, Nat.reduceSub, Nat.reduceLeDiff, ↓reduceIte, decide_eq_true_eq, if_true, if_false, Bool.false_eq_true, Int.lt_irrefl, implies_true, true_and, and_true, eq_self, and_self, beq_self_eq_true, h4, hx, h45]
          exact IJ_intro (k := L.length - (i + 1)) (by omega) (i + 1, sl, l) rfl ⟨rfl, by dsimp only; omega, hle, ho, hlim, by dsimp only; omega, by dsimp only; rw [hft]; exact hv⟩
        · rw [if_neg h45] at hft
          have hdg : isDig x := by rcases hmem with h | h; exact absurd h h45; exact h
          unfold isDig at hdg
          have f1 : IntKind.u8.wrap (x - 48) = x - 48 := wrap_u8' (by omega) (by omega)
          have f2 : IntKind.u64.wrap (x - 48) = x - 48 := wrap_u64' (by omega) (by omega)
          simp (maxSteps := 1000000) (disch := first | exact sd | fail) only [go_sem, Nat.reduceAdd, Nat.reduceSub, Nat.reduceLeDiff, ↓reduceIte, decide_eq_true_eq, if_true, if_false, Bool.false_eq_true, Int.lt_irrefl, implies_true, true_and, and_true, eq_self, and_self, beq_self_eq_true, h4, hx, h45, f1, f2, ho.u.len T.i22]
          refine aw_loopJ (σ := Int × List Int × List Int) (fun st J => [.string s, J 1, .pointer (some ⟨N, 0, none⟩), .int .i64 0, sl, .int .i64 i, .int .u64 st.1, J 7, J 8, J 9, J 10, J 11, J 12, J 13, J 14, J 15, J 16, J 17, J 18, J 19, .int .i64 L.length, .int .i64 i, J 22, J 23, J 24, J 25, J 26, J 27, J 28, J 29, J 30, J 31, J 32, sl, .int .i64 l.length, .int .i64 st.2.1.length, J 36, J 37, J 38, J 39, J 40, J 41, J 42, J 43, J 44, J 45, J 46, J 47, J 48, J 49, J 50, J 51, J 52, J 53, J 54, J 55, J 56, J 57, J 58, J 59, J 60, J 61, J 62, J 63, J 64, J 65]) (fun m st H1 => m = st.2.2.length ∧ st.2.1.length + st.2.2.length = l.length ∧ Hle HB H1 ∧ UO Try.prog HB H1 sl (st.2.1 ++ st.2.2) ∧ Lim st.2.1 ∧ Lim st.2.2 ∧ (0 ≤ st.1 ∧ st.1 < 4294967296) ∧ val st.2.1 + 4294967296 ^ st.2.1.length * (st.1 + 10 * val st.2.2) = 10 * val l + (x - 48)) l.length (x - 48, [], l) rfl ⟨rfl, by simp, hle, ho, Lim.nil, hlim, ⟨by dsimp only; omega, by dsimp only; omega⟩, by simp [val]; omega⟩ ?_
          clear hle ho
          rintro m ⟨c, dn, rest⟩ J H1 ⟨rfl, hlen, hle, ho, hl1, hl2, hcb, hval⟩
          simp only at hlen ho hl1 hl2 hcb hval
          cases rest with
          | nil =>
            rw [List.append_nil] at ho
            simp only [List.length_nil, Nat.add_zero] at hlen
            have hdv : (10 * val l + (x - 48)) = rdL (fl (L.take (i + 1))) 0 := by
              rw [hft, rdL_snoc, hv]; omega
            by_cases hc0 : 0 < c
            · simp (maxSteps := 1000000) (disch := first | exact sd | fail) only [go_sem, Nat.reduceAdd, Nat.reduceSub, Nat.reduceLeDiff, ↓reduceIte, decide_eq_true_eq, if_true, if_false, Bool.false_eq_true, Int.lt_irrefl, implies_true, true_and, and_true, eq_self, and_self, beq_self_eq_true, show ¬ (dn.length : Int) < l.length by omega, hc0]
              refine e151.mono ?_
              rintro _ _ ⟨rfl, rfl⟩
              rw [Int.emod_eq_of_lt hcb.1 hcb.2]
              obtain ⟨ap1, ap2, ap3⟩ := ho.append1 (x := c) hle (by omega)
              simp (maxSteps := 1000000) (disch := first | exact sd | fail) only [go_sem, Nat.reduceAdd, Nat.reduceSub, Nat.reduceLeDiff, ↓reduceIte, decide_eq_true_eq, if_true, if_false, Bool.false_eq_true, Int.lt_irrefl, implies_true, true_and, and_true, eq_self, and_self, beq_self_eq_true, ap1]
              refine IJ_intro (k := L.length - (i + 1)) (by omega) (i + 1, _, dn ++ [c]) rfl ⟨rfl, by dsimp only; omega, ap3, ap2, hl1.append (Lim.cons hcb Lim.nil), by simp; omega, ?_⟩
              dsimp only
              rw [← hdv, ← hval, val_append]
              simp [val]
            · have hcz : c = 0 := by omega
              simp (maxSteps := 1000000) (disch := first | exact sd | fail) only [go_sem, Nat.reduceAdd, Nat.reduceSub, Nat.reduceLeDiff, ↓reduceIte, decide_eq_true_eq, if_true, if_false, Bool.false_eq_true, Int.lt_irrefl, implies_true, true_and, and_true, eq_self, and_self, beq_self_eq_true, show ¬ (dn.length : Int) < l.length by omega, hc0]
              exact IJ_intro (k := L.length - (i + 1)) (by omega) (i + 1, sl, dn) rfl ⟨rfl, by dsimp only; omega, hle, ho, hl1, by dsimp only; omega, by dsimp only; rw [← hdv, ← hval, hcz]; simp [val]⟩
          | cons y rest =>
            have hy := hl2 y (by simp)
            have hlc : (dn ++ y :: rest).length = l.length := by rw [List.length_append]; exact hlen
            simp only [List.length_cons] at hlen
            have g1 : IntKind.u64.wrap y = y := wrap_u64' (by omega) (by omega)
            have g2 : IntKind.u64.wrap (y * 10) = y * 10 := wrap_u64' (by omega) (by omega)
            have g3 : IntKind.u64.wrap (c + y * 10) = c + y * 10 := wrap_u64' (by omega) (by omega)
            have a1 := ho.u.addr Try.underlying22 T.s50 T.z50 (k := .i64) (i := (dn.length : Int)) (by omega) (by omega)
            have b1 := ho.u.load T.r50 (o := dn.length) (by omega)
            rw [get_mid] at b1
            rw [Int.toNat_natCast] at a1
            obtain ⟨s1, o1, q1⟩ := ho.store hle (o := dn.length) (x := (c + y * 10) % 4294967296) (by omega)
            rw [set_mid] at o1
            simp (maxSteps := 1000000) (disch := first | exact sd | fail) only [go_sem, Nat.reduceAdd, Nat.reduceSub, Nat.reduceLeDiff, ↓reduceIte, decide_eq_true_eq, if_true, if_false, Bool.false_eq_true, Int.lt_irrefl, implies_true, true_and, and_true, eq_self, and_self, beq_self_eq_true, show (dn.length : Int) < l.length by omega, a1, b1, g1, g2, g3]
            refine e151.mono ?_
            rintro _ _ ⟨rfl, rfl⟩
            simp (maxSteps := 1000000) (disch := first | exact sd | fail) only [go_sem, Nat.reduceAdd, Nat.reduceSub, Nat.reduceLeDiff, ↓reduceIte, decide_eq_true_eq, if_true, if_false, Bool.false_eq_true, Int.lt_irrefl, implies_true, true_and, and_true, eq_self, and_self, beq_self_eq_true, a1, s1, Int.fdiv_eq_ediv_of_nonneg]
            refine IJ_intro (k := rest.length) (by omega) ((c + y * 10) / 4294967296, dn ++ [(c + y * 10) % 4294967296], rest) (by simp only [List.length_append]; rfl) ⟨rfl, by simp; omega, q1, by simpa using o1, hl1.append (Lim.cons (by omega) Lim.nil), fun z hz => hl2 z (by simp [hz]), ⟨by dsimp only; omega, by dsimp only; omega⟩, ?_⟩
            dsimp only
            rw [val_append, List.length_append, Int.pow_add]
            have := mul_step (B := 4294967296 ^ dn.length) (D := val dn) (c := c) (y := y) (v := val rest) (V := 10 * val l + (x - 48)) (by simpa [val] using hval)
            simp only [val, List.length_cons, List.length_nil] at this ⊢
            rw [← this]
            simp [Int.mul_comm, Int.add_assoc]
      · have hLp : 0 < L.length := by
          have := okN_ne hok
          have h2 := dgs_len L
          have h3 := pos_ne this
          omega
        have h00 := hix .i64 0 (by omega) (by omega)
        rw [show (0 : Int).toNat = 0 from rfl] at h00
        simp (maxSteps := 1000000) (disch := first | exact sd | fail) only [go_sem, Nat.reduceAdd, Nat.reduceSub, Nat.reduceLeDiff, ↓reduceIte, decide_eq_true_eq, if_true, if_false, Bool.false_eq_true, Int.lt_irrefl, implies_true, true_and, and_true, eq_self, and_self, beq_self_eq_true, h4, h00]
        refine (z144 ho.u hlim (by omega)).mono ?_
        rintro r H4 ⟨hr, q4⟩
        have gN : H4.get N = some (.row true 24 [.bool false, .slice none 0 0]) := ((hle.trans q4).get N (by omega)).trans hBg
        have hz : (if decide (L.getD 0 0 = 45) = true then -(val l) else val l) = zdN L := by
          have e : i = L.length := by omega
          rw [hv, e, List.take_length, okN_fl hok]
          unfold zdN
          rw [hd_getD]
          simp only [decide_eq_true_eq]
        have hr2 := fun cs => hr.setbox gN cs
        rw [hz] at hr hr2
        obtain ⟨sl4, rfl, hs4, hu4⟩ := hr.form
        simp (maxSteps := 1000000) (disch := first | exact sd | fail) only [go_sem, Nat.reduceAdd, Nat.reduceSub, Nat.reduceLeDiff, ↓reduceIte, decide_eq_true_eq, if_true, if_false, Bool.false_eq_true, Int.lt_irrefl, implies_true, true_and, and_true, eq_self, and_self, beq_self_eq_true, gN]
        exact .tuple (.cons (.ofN (hr2 _)) (.cons .rfl .nil))
end Go.Abs

/- A number's text is read back. -/
set_option linter.unusedVariables false
set_option linter.unusedSimpArgs false
namespace Go.Abs
open Go Go.Proofs
set_option maxRecDepth 100000
set_option maxHeartbeats 4000000

theorem hd_rev (l : List Int) : l.reverse.headD 0 = l.getD (l.length - 1) 0 := by
  cases l with
  | nil => rfl
  | cons a l =>
    rw [hd_getD, List.getD_eq_getElem?_getD, List.getD_eq_getElem?_getD, List.getElem?_reverse (by simp)]
    simp
theorem decL_all (n : Nat) : ((decL n).reverse.all fun x => decide (48 ≤ x ∧ x ≤ 57)) = true := by
  rw [List.all_eq_true]
  intro x hx
  have := decL_dig n x (List.mem_reverse.1 hx)
  simpa [isDig] using this
theorem txt_dgs (z : Int) : z ≠ 0 → dgs (txt z) = (decL z.natAbs).reverse ∧ ((txt z).headD 0 = 45 ↔ z < 0) ∧ (decL z.natAbs).reverse.headD 0 ≠ 48 ∧ (decL z.natAbs).reverse ≠ [] := by
  intro h
  have hn : z.natAbs ≠ 0 := by omega
  have h1 : (decL z.natAbs).reverse ≠ [] := by simpa [decL_nil] using hn
  have h2 : (decL z.natAbs).reverse.headD 0 ≠ 48 := by
    rw [hd_rev]
    rcases decL_top z.natAbs with h | h
    · exact absurd h hn
    · exact h
  have h3 : (decL z.natAbs).reverse.headD 0 ≠ 45 := by
    cases hd : (decL z.natAbs).reverse with
    | nil => exact absurd hd h1
    | cons a l =>
      have := decL_dig z.natAbs a (List.mem_reverse.1 (by rw [hd]; simp))
      unfold isDig at this
      simp only [List.headD_cons]; omega
  unfold txt
  rw [if_neg h]
  by_cases hz : z < 0
  · rw [if_pos hz]
    exact ⟨by simp [dgs], by simp [hz], h2, h1⟩
  · rw [if_neg hz]
    refine ⟨by unfold dgs; rw [if_neg h3], ?_, h2, h1⟩
    exact ⟨fun e => absurd e h3, fun e => absurd e hz⟩
theorem okN_txt (z : Int) : okN (txt z) = true := by
  by_cases h : z = 0
  · subst h; decide
  · obtain ⟨h1, h2, h3, h4⟩ := txt_dgs z h
    unfold okN
    rw [h1, decL_all]
    simp only [decide_eq_true_eq]
    exact ⟨h4, fun h => h3 h.1, trivial⟩
theorem zdN_txt (z : Int) : zdN (txt z) = z := by
  by_cases h : z = 0
  · subst h; decide
  · obtain ⟨h1, h2, h3, h4⟩ := txt_dgs z h
    unfold zdN
    rw [h1, rdL_decL]
    by_cases hz : z < 0
    · rw [if_pos (h2.2 hz)]; omega
    · rw [if_neg (fun e => hz (h2.1 e))]; omega
theorem txt_len {z : Int} {K : Nat} (h : ln z ≤ K) : (txt z).length ≤ 32 * K + 1 := by
  have h1 := decL_len (ln_lt z)
  unfold txt
  split
  · simp
  · split <;> simp <;> omega
theorem txt_inj {a b : Int} : txt a = txt b ↔ a = b := ⟨fun h => by rw [← zdN_txt a, h, zdN_txt], fun h => by rw [h]⟩
theorem chs_txt (z : Int) : chs (bsOf (txt z)) = txt z := chs_bsOf (txt_bd z)
theorem seql_txt (a b : Int) : ((bsOf (txt a)).toList == (bsOf (txt b)).toList) = decide (a = b) := by
  rw [seql, chs_txt, chs_txt]
  exact decide_eq_decide.2 txt_inj
theorem p56t {z : Int} (h : ln z ≤ 150) : PC Try.prog 108 [.string (bsOf (txt z))] (.tuple ⟨[Zn z, .int .i64 0]⟩) := by
  have hl := txt_len h
  have h1 : ¬ 5000 < (txt z).length := by omega
  have hs : (bsOf (txt z)).size ≤ 2 ^ 40 := by rw [← chs_len, chs_txt]; omega
  refine (p56 hs).ok ?_
  rw [chs_txt, rdV, rdE, if_neg h1, if_neg h1, okN_txt, if_pos rfl, if_pos rfl, zdN_txt]
theorem p58z {z : Int} (h : ln z ≤ 2 ^ 30) : PC Try.prog 54 [Zn z] (.string (bsOf (txt z))) := (p58 (lb_z (by omega)) h).ok (by rw [den_z])
end Go.Abs
