/- Joined: Q2, Q4. -/
import Derived.Test.YtboekagofficpaaGreatQ1
import Derived.Test.YtboekagofficpaaGreatN27
import Derived.Test.YtboekagofficpaaGreatZb
/- The document's twice, divmod: calls of values. -/
set_option linter.unusedVariables false
set_option linter.unusedSimpArgs false
namespace Go.Abs
open Go Go.Proofs
set_option maxRecDepth 100000
set_option maxHeartbeats 4000000

theorem p214 {l : List Int} {b : Bool} (h1 : Lb l) : PC Tryz.prog 160 [Vv eU l, .bool b] (Vv eU (lmb (2 * val l + (if b = true then 1 else 0)))) :=
  PK.th2 Th.U (Th.G (.ground rfl)) ⟨_, Tryz.func160, rfl, rfl⟩ fun H v w hu hw => by
    rw [hw]
    refine (c214 hu h1.1 h1.2).mono ?_
    rintro r H' ⟨o, k1, k2, k3, k4, k5, k6⟩
    have := lmb_of k2 k5 k3 (by have := val_nonneg h1.1; split <;> omega)
    subst this
    exact ⟨_, .ofU k1, pu_U, rfl⟩

theorem BitInv.next' {a q : List Int} {V : Int} {i : Nat} {t r : Int} (h : BitInv a q V (i + 1) 0 t r) (la : Lim a) : BitInv a q V i 32 0 r := by
  have hql := h.qlen
  have e := h.eq
  have hqi := h.qi
  rw [Int.pow_zero, Int.mul_one] at hqi
  rw [Int.pow_zero, Int.ediv_one, Nat.sub_zero, ← hqi] at e
  have h1 := val_drop_succ (a := a) (k := i + 1)
  have h2 := val_drop_succ (a := q) (k := i + 1)
  have hp : (2 : Int) ^ 32 = 4294967296 := by decide
  rw [hp] at e
  have hai := la.getD i
  refine ⟨h.qlim, hql, ?_, h.rb, by decide, by rw [Int.zero_mul]; exact h.zero i (by omega), fun j hj => h.zero j (by omega)⟩
  rw [Nat.sub_self, Int.pow_zero, Int.mul_one, Int.mul_one, hp, Int.ediv_eq_zero_of_lt hai.1 hai.2, h1, h2]
  rw [show val (a.drop (i + 1 + 1)) * 4294967296 = 4294967296 * val (a.drop (i + 1 + 1)) by omega, show val (q.drop (i + 1 + 1)) * 4294967296 = 4294967296 * val (q.drop (i + 1 + 1)) by omega] at e
  rw [show q.getD (i + 1) 0 + 4294967296 * val (q.drop (i + 1 + 1)) + 0 = 4294967296 * val (q.drop (i + 1 + 1)) + q.getD (i + 1) 0 by omega]
  omega
theorem BitInv.start {a : List Int} {V : Int} (hV : 0 < V) : BitInv a (List.replicate a.length 0) V a.length 0 0 0 := by
  have hr : Lim (List.replicate a.length (0 : Int)) := fun x hx => by rw [List.eq_of_mem_replicate hx]; omega
  have hg : ∀ j, (List.replicate a.length (0 : Int)).getD j 0 = 0 := fun j => by
    rw [List.getD_eq_getElem?_getD, List.getElem?_replicate]; split <;> rfl
  refine ⟨hr, List.length_replicate, ?_, ⟨by omega, hV⟩, by decide, by rw [hg]; rfl, fun j _ => hg j⟩
  rw [List.drop_of_length_le (by omega), List.drop_of_length_le (by simp), getD_none (by omega)]
  simp [val]

theorem and_one {x : Int} (hx : 0 ≤ x ∧ x < 4294967296) : aBits .and .u32 x 1 = x % 2 := by
  obtain ⟨a, rfl⟩ := Int.eq_ofNat_of_zero_le hx.1
  have h1 : (BitVec.ofInt 32 (a : Int)).toNat = a := by rw [BitVec.toNat_ofInt]; omega
  have h2 : (BitVec.ofInt 32 (1 : Int)).toNat = 2 ^ 1 - 1 := by decide
  show IntKind.u32.wrap (((BitVec.ofInt 32 (a : Int)) &&& (BitVec.ofInt 32 1)).toNat : Int) = _
  rw [BitVec.toNat_and, h1, h2, Nat.and_two_pow_sub_one_eq_mod, wrap_u32]
  omega
theorem shr32_n {n : Nat} {x : Int} (hn : n < 32) : x.fdiv (2 ^ (min n 32)) = x / 2 ^ n := by
  rw [show min n 32 = n by omega]
  exact fdiv_pow _ _

theorem or_low' {n : Nat} {t c : Int} (ht : 0 ≤ t) (hlt : t * 2 ^ n < 4294967296) (hc : 0 ≤ c ∧ c < 2 ^ n) (hn : n ≤ 32) : aBits .or .u32 (t * 2 ^ n) c = t * 2 ^ n + c := by
  rcases Nat.lt_or_ge n 32 with h | h
  · exact or_low ht hlt hc h
  · have e : n = 32 := by omega
    subst e
    have ht0 : t = 0 := by
      have e2 : (2 : Int) ^ 32 = 4294967296 := by decide
      rw [e2] at hlt; omega
    subst ht0
    have e2 : (2 : Int) ^ 32 = 4294967296 := by decide
    rw [e2] at hc
    obtain ⟨a, rfl⟩ := Int.eq_ofNat_of_zero_le hc.1
    have := aBits32_or (a := 0) (b := a) (by decide) (by omega)
    rw [Nat.zero_or] at this
    rw [Int.zero_mul, Int.zero_add]
    exact this
theorem or_bit {n : Nat} {t : Int} (ht : 0 ≤ t) (hlt : (2 * t + 1) * 2 ^ n < 4294967296) (hn : n < 32) : aBits .or .u32 (t * 2 ^ (n + 1)) (2 ^ n) = (2 * t + 1) * 2 ^ n := by
  have h2 := two_pow hn
  have e : t * 2 ^ (n + 1) = 2 * t * 2 ^ n := by rw [Int.pow_succ, Int.mul_comm (2 ^ n), ← Int.mul_assoc, Int.mul_comm t]
  have e3 : (2 * t + 1) * 2 ^ n = t * 2 ^ (n + 1) + 2 ^ n := by rw [Int.add_mul, Int.one_mul, e]
  rw [e3, or_low' ht (by rw [e3] at hlt; omega) ⟨by omega, by rw [Int.pow_succ]; omega⟩ (by omega)]
theorem set_same {l : List Int} {i : Nat} (hi : i < l.length) : l.set i (l.getD i 0) = l := by
  rw [List.getD_eq_getElem?_getD, List.getElem?_eq_getElem hi]
  exact List.set_getElem_self hi
theorem sg_ge {x : Int} : (0 ≤ sg x) ↔ 0 ≤ x := by
  unfold sg; split
  · omega
  · split <;> omega

theorem p149 {A B : Int} (hA : 0 ≤ A) (hB : 0 < B) (bA : ln A ≤ 2 ^ 39) (bB : ln B ≤ 2 ^ 39) :
    PC Tryz.prog 157 [Vv eU (lmb A), Vv eU (lmb B)] (.tuple ⟨[Vv eU (lmb (A / B)), Vv eU (lmb (A % B))]⟩) := by
  refine PC.of (.cons pu_U (.cons pu_U .nil)) (.tuple (.cons pu_U (.cons pu_U .nil))) fun N hN => ?_
  have vA : val (lmb A) = A := by rw [val_z]; omega
  have vB : val (lmb B) = B := by rw [val_z]; omega
  have lA : Lim (lmb A) := lim_z A
  have nA : (lmb A).length ≤ 2 ^ 39 := bA
  have nB : (lmb B).length ≤ 2 ^ 39 := bB
  refine ACalls.of_code T.hm (n := 59) Tryz.func157 rfl rfl rfl rfl ?_; simp only [List.replicate_succ, List.replicate_zero, List.cons_append, List.nil_append]
  simp (maxSteps := 1000000) (disch := first | exact sd | fail) only [go_sem, Nat.reduceAdd, Nat.reduceSub, Nat.reduceLeDiff, ↓reduceIte, decide_eq_true_eq, if_true, if_false, Bool.false_eq_true, Int.lt_irrefl, implies_true, true_and, and_true, eq_self, and_self, beq_self_eq_true]
  refine PC.step (p159 ⟨lA, by omega⟩ ⟨lim_z B, by omega⟩ (top_limbs _) (top_limbs _)) fun m0 hm0 => ?_
  rw [vA, vB]
  by_cases h0 : sg (A - B) < 0
  · have h0' : A < B := by unfold sg at h0; split at h0 <;> omega
    simp (maxSteps := 1000000) (disch := first | exact sd | fail) only [go_sem, Nat.reduceAdd, Nat.reduceSub, Nat.reduceLeDiff, ↓reduceIte, decide_eq_true_eq, if_true, if_false, Bool.false_eq_true, Int.lt_irrefl, implies_true, true_and, and_true, eq_self, and_self, beq_self_eq_true, h0]
    rw [Int.ediv_eq_zero_of_lt hA h0', Int.emod_eq_of_lt hA h0', lmb_zero]
    exact .tuple (.cons (.nz .vnil) (.cons .rfl .nil))
  have h0' : B ≤ A := by unfold sg at h0; split at h0 <;> omega
  have eA : (lmb A).length = ln A := rfl
  simp (maxSteps := 1000000) (disch := first | exact sd | fail) only [go_sem, Nat.reduceAdd, Nat.reduceSub, Nat.reduceLeDiff, ↓reduceIte, decide_eq_true_eq, if_true, if_false, Bool.false_eq_true, Int.lt_irrefl, implies_true, true_and, and_true, eq_self, and_self, beq_self_eq_true, h0, show ((ln A : Nat) : Int).toNat = ln A by omega, aMk_int]
  have oq := zeros_own (H := (E0 N).bump m0) (n := ln A) (by omega)
  have oq2 : UO Tryz.prog (E0 N) (((E0 N).bump m0).push (.row true 177 (List.replicate (ln A) (.int .u32 0)))) (.slice (some ⟨m0, 0, none⟩) (ln A) (ln A)) (List.replicate (ln A) 0) := Ow.older oq hm0
  clear oq
  generalize Value.slice (some ⟨m0, 0, none⟩) (ln A) (ln A) = sq at oq2 ⊢
  refine aw_loopJ (σ := Nat × Value × Int × List Int) (fun s J => [Vv eU (lmb A), Vv eU (lmb B), J 2, J 3, .slice none 0 0, .slice none 0 0, sq, s.2.1, .int .i64 (s.1 - 1), J 9, J 10, J 11, J 12, J 13, J 14, J 15, J 16, J 17, J 18, J 19, J 20, J 21, J 22, J 23, J 24, J 25, J 26, J 27, J 28, J 29, J 30, J 31, J 32, J 33, J 34, J 35, J 36, J 37, J 38, J 39, J 40, J 41, J 42, J 43, J 44, J 45, J 46, J 47, J 48, J 49, J 50, J 51, J 52, J 53, J 54, J 55, J 56, J 57, J 58, J 59, J 60]) (fun m s H1 => m = s.1 ∧ s.1 ≤ ln A ∧ Hle (E0 N) H1 ∧ UO Tryz.prog (E0 N) H1 sq s.2.2.2 ∧ Nz (Vv eU (lmb s.2.2.1)) s.2.1 ∧ ∃ t, BitInv (lmb A) s.2.2.2 B s.1 0 t s.2.2.1) (ln A) (ln A, .slice none 0 0, 0, List.replicate (ln A) 0) rfl ⟨rfl, Nat.le_refl _, (Hle.rfl.bump hm0).push _, oq2, by rw [lmb_zero]; exact .vnil, 0, BitInv.start hB⟩ ?_
  rintro m ⟨i, rv, R, q⟩ J H1 ⟨rfl, hi, hle, ho, hnz, t, hb⟩
  simp only at hi ho hnz hb
  have hql := hb.qlen
  cases m with
  | zero =>
    obtain ⟨d1, d2⟩ := hb.done
    rw [vA] at d1 d2
    simp (maxSteps := 1000000) (disch := first | exact sd | fail) only [go_sem, Nat.reduceAdd, Nat.reduceSub, Nat.reduceLeDiff, ↓reduceIte, decide_eq_true_eq, if_true, if_false, Bool.false_eq_true, Int.lt_irrefl, implies_true, true_and, and_true, eq_self, and_self, beq_self_eq_true, show ¬ (0 : Int) ≤ ((0 : Nat) : Int) - 1 by omega]
    refine (c215 ho.u (by omega)).mono ?_
    rintro s _ ⟨hs, rfl⟩
    simp (maxSteps := 1000000) (disch := first | exact sd | fail) only [go_sem, Nat.reduceAdd, Nat.reduceSub, Nat.reduceLeDiff, ↓reduceIte, decide_eq_true_eq, if_true, if_false, Bool.false_eq_true, Int.lt_irrefl, implies_true, true_and, and_true, eq_self, and_self, beq_self_eq_true]
    have e1 := lmb_of (z := A / B) hb.qlim.trimL (top_trimL q) (by rw [val_trimL, d1]) (Int.ediv_nonneg hA (by omega))
    rw [e1] at hs
    rw [← d2]
    exact .tuple (.cons (.ofU hs) (.cons (.nz hnz) .nil))
  | succ i =>
    have hb32 := hb.next' lA
    simp (maxSteps := 1000000) (disch := first | exact sd | fail) only [go_sem, Nat.reduceAdd, Nat.reduceSub, Nat.reduceLeDiff, ↓reduceIte, decide_eq_true_eq, if_true, if_false, Bool.false_eq_true, Int.lt_irrefl, implies_true, true_and, and_true, eq_self, and_self, beq_self_eq_true, show (0 : Int) ≤ ((i + 1 : Nat) : Int) - 1 by omega]
    refine aw_loopJ (σ := Nat × Value × Int × List Int) (fun s J => [Vv eU (lmb A), Vv eU (lmb B), J 2, J 3, .slice none 0 0, .slice none 0 0, sq, s.2.1, .int .i64 ((i + 1 : Nat) - 1), .int .i64 (s.1 - 1), J 10, J 11, J 12, J 13, J 14, J 15, J 16, J 17, J 18, J 19, J 20, J 21, J 22, J 23, J 24, J 25, J 26, J 27, J 28, J 29, J 30, J 31, J 32, J 33, J 34, J 35, J 36, J 37, J 38, J 39, J 40, J 41, J 42, J 43, J 44, J 45, J 46, J 47, J 48, J 49, J 50, J 51, J 52, J 53, J 54, J 55, J 56, J 57, J 58, J 59, J 60]) (fun m s H1 => m = s.1 ∧ s.1 ≤ 32 ∧ Hle (E0 N) H1 ∧ UO Tryz.prog (E0 N) H1 sq s.2.2.2 ∧ Nz (Vv eU (lmb s.2.2.1)) s.2.1 ∧ ∃ t, BitInv (lmb A) s.2.2.2 B i s.1 t s.2.2.1) 32 (32, rv, R, q) rfl ⟨rfl, Nat.le_refl _, hle, ho, hnz, 0, hb32⟩ ?_
    clear hb hb32 ho hnz hle hql
    rintro m ⟨k, rv, R, q⟩ J H1 ⟨rfl, hk, hle, ho, hnz, t, hb⟩
    simp only at hk ho hnz hb
    have hql := hb.qlen
    have hRB := hb.rb
    cases m with
    | zero =>
      simp (maxSteps := 1000000) (disch := first | exact sd | fail) only [go_sem, Nat.reduceAdd, Nat.reduceSub, Nat.reduceLeDiff, ↓reduceIte, decide_eq_true_eq, if_true, if_false, Bool.false_eq_true, Int.lt_irrefl, implies_true, true_and, and_true, eq_self, and_self, beq_self_eq_true, show ¬ (0 : Int) ≤ ((0 : Nat) : Int) - 1 by omega]
      refine IJ_intro (k := i) (by omega) (i, rv, R, q) ?_ ⟨rfl, by dsimp only; omega, hle, ho, hnz, t, hb⟩
      simp only [show ((i + 1 : Nat) : Int) - 1 = (i : Int) by omega]
      rfl
    | succ k =>
      have hx := lA.getD i
      generalize hxi : (lmb A).getD i 0 = xi at *
      have hbit : xi / 2 ^ k % 2 = 0 ∨ xi / 2 ^ k % 2 = 1 := by omega
      have hxk : 0 ≤ xi / 2 ^ k ∧ xi / 2 ^ k < 4294967296 := ⟨Int.ediv_nonneg hx.1 (Int.le_of_lt (pow2_pos k)), by have := Int.ediv_le_self (b := 2 ^ k) hx.1; omega⟩
      have f0 : ((k + 1 : Nat) : Int) - 1 = (k : Int) := by omega
      have f00 : ((i + 1 : Nat) : Int) - 1 = (i : Int) := by omega
      have f1 : IntKind.u64.wrap (k : Int) = (k : Int) := wrap_u64' (by omega) (by omega)
      have f2 := shr32_n (n := k) (x := xi) (by omega)
      have f3 := and_one hxk
      have lR : ln R ≤ ln B := ln_mono (by omega)
      simp (maxSteps := 1000000) (disch := first | exact sd | fail) only [go_sem, Nat.reduceAdd, Nat.reduceSub, Nat.reduceLeDiff, ↓reduceIte, decide_eq_true_eq, if_true, if_false, Bool.false_eq_true, Int.lt_irrefl, implies_true, true_and, and_true, eq_self, and_self, beq_self_eq_true, f0, f00, f1, f2, f3, hxi, bin_shr, bin_and, Int.toNat_natCast, show (0 : Int) ≤ (k : Int) by omega]
      refine ACalls.nz (.cons hnz (.cons .rfl .nil)) ?_
      refine PC.step (p214 (lb_z (by omega))) fun m1 j1 => ?_
      try simp only [Heap.next_push, Heap.next_set, Heap.next_kill, next_bump, next_E0] at j1
      have fR : (2 * val (lmb R) + if decide (xi / 2 ^ k % 2 = 1) = true then 1 else 0) = 2 * R + xi / 2 ^ k % 2 := by
        rw [val_z]
        rcases hbit with h | h <;> rw [h] <;> simp <;> omega
      rw [fR]
      have l2 : ln (2 * R + xi / 2 ^ k % 2) ≤ ln B + 1 := by
        have h1 := ln_mono (a := 2 * R + xi / 2 ^ k % 2) (b := 2 * B) (by omega)
        have h2 := ln_mul 2 B
        have h3 : ln (2 : Int) ≤ 1 := ln_small (by decide)
        omega
      have hle1 := hle.bump j1
      have ho1 : UO Tryz.prog (E0 N) (H1.bump m1) sq q := Ow.bump ho j1
      simp (maxSteps := 1000000) (disch := first | exact sd | fail) only [go_sem, Nat.reduceAdd, Nat.reduceSub, Nat.reduceLeDiff, ↓reduceIte, decide_eq_true_eq, if_true, if_false, Bool.false_eq_true, Int.lt_irrefl, implies_true, true_and, and_true, eq_self, and_self, beq_self_eq_true]
      refine PC.step (p159 (lb_z (by omega)) (lb_z (by omega)) (top_limbs _) (top_limbs _)) fun m2 j2 => ?_
      try simp only [Heap.next_push, Heap.next_set, Heap.next_kill, next_bump, next_E0] at j2
      rw [val_z, val_z]
      have fS : (((2 * R + xi / 2 ^ k % 2).natAbs : Nat) : Int) - (B.natAbs : Nat) = 2 * R + xi / 2 ^ k % 2 - B := by omega
      rw [fS]
      have hle2 := hle1.bump (m := m2) (by rw [next_bump]; omega)
      have ho2 : UO Tryz.prog (E0 N) ((H1.bump m1).bump m2) sq q := Ow.bump ho1 (by rw [next_bump]; omega)
      have hqi := hb.qi
      have htb := hb.tb
      by_cases c : 0 ≤ sg (2 * R + xi / 2 ^ k % 2 - B)
      · have c' := sg_ge.1 c
        have hbs := hb.bit (s := 1) (by omega) (by omega) (b := xi / 2 ^ k % 2) (by rw [hxi]) (.inr rfl) (by rw [Int.one_mul]; omega)
        rw [Int.one_mul] at hbs
        have hq2 : 0 ≤ (2 * t + 1) * 2 ^ k ∧ (2 * t + 1) * 2 ^ k < 4294967296 := by
          have h1 := hbs.qlim.getD i
          rw [List.getD_eq_getElem?_getD, List.getElem?_set_self (by omega)] at h1
          exact h1
        have f5 := or_bit (n := k) htb.1 hq2.2 (by omega)
        have f6 : IntKind.u32.wrap (1 * 2 ^ (min k 32)) = 2 ^ k := by
          rw [show min k 32 = k by omega, Int.one_mul]
          exact wrap_u32' (Int.le_of_lt (pow2_pos k)) (by have := two_pow (n := k) (by omega); omega)
        simp (maxSteps := 1000000) (disch := first | exact sd | fail) only [go_sem, Nat.reduceAdd, Nat.reduceSub, Nat.reduceLeDiff, ↓reduceIte, decide_eq_true_eq, if_true, if_false, Bool.false_eq_true, Int.lt_irrefl, implies_true, true_and, and_true, eq_self, and_self, beq_self_eq_true, c]
        refine PC.step (p160 (lb_z (by omega)) (by have := ln_mono (a := B) (b := 2 * R + xi / 2 ^ k % 2) (by omega); exact this) (lim_z B) (by rw [val_z, val_z]; omega)) fun m3 j3 => ?_
        try simp only [Heap.next_push, Heap.next_set, Heap.next_kill, next_bump, next_E0] at j3
        rw [val_z, val_z, fS]
        have hle3 := hle2.bump (m := m3) (by rw [next_bump]; omega)
        have ho3 : UO Tryz.prog (E0 N) (((H1.bump m1).bump m2).bump m3) sq q := Ow.bump ho2 (by rw [next_bump]; omega)
        have hou := ho3.u
        obtain ⟨s1, s2, s3⟩ := ho3.store (o := i) (x := (2 * t + 1) * 2 ^ k) hle3 (by omega)
        simp (maxSteps := 1000000) (disch := first | exact sd | fail) only [go_sem, Nat.reduceAdd, Nat.reduceSub, Nat.reduceLeDiff, ↓reduceIte, decide_eq_true_eq, if_true, if_false, Bool.false_eq_true, Int.lt_irrefl, implies_true, true_and, and_true, eq_self, and_self, beq_self_eq_true, hou.len T.i22, hou.addr Tryz.underlying70 T.s50 T.z50, hou.loadh T.r50, f1, f6, hqi, f5, bin_shl, bin_or, Int.toNat_natCast, s1, show (0 : Int) ≤ (k : Int) by omega]
        exact IJ_intro (k := k) (by omega) (k, _, _, _) rfl ⟨rfl, by dsimp only; omega, s3, s2, .rfl, _, hbs⟩
      · have c' : 2 * R + xi / 2 ^ k % 2 - B < 0 := by
          rcases Int.lt_or_le (2 * R + xi / 2 ^ k % 2 - B) 0 with h | h
          · exact h
          · exact absurd (sg_ge.2 h) c
        have hbs := hb.bit (s := 0) (by omega) (by omega) (b := xi / 2 ^ k % 2) (by rw [hxi]) (.inl rfl) (by rw [Int.zero_mul]; omega)
        rw [Int.zero_mul, Int.sub_zero, Int.add_zero] at hbs
        have e1 : q.set i (2 * t * 2 ^ k) = q := by
          have : 2 * t * 2 ^ k = q.getD i 0 := by rw [hqi, Int.pow_succ, Int.mul_comm (2 ^ k), ← Int.mul_assoc, Int.mul_comm t]
          rw [this, set_same (by omega)]
        rw [e1] at hbs
        simp (maxSteps := 1000000) (disch := first | exact sd | fail) only [go_sem, Nat.reduceAdd, Nat.reduceSub, Nat.reduceLeDiff, ↓reduceIte, decide_eq_true_eq, if_true, if_false, Bool.false_eq_true, Int.lt_irrefl, implies_true, true_and, and_true, eq_self, and_self, beq_self_eq_true, c]
        exact IJ_intro (k := k) (by omega) (k, _, _, _) rfl ⟨rfl, by dsimp only; omega, hle2, ho2, .rfl, _, hbs⟩
end Go.Abs

/- The document's quotients, and what divides both: calls of values. -/
set_option linter.unusedVariables false
set_option linter.unusedSimpArgs false
namespace Go.Abs
open Go Go.Proofs
set_option maxRecDepth 100000
set_option maxHeartbeats 40000000

def pl43_6 : Plan := ⟨[0, 1, 2, 3, 4, 5, 7, 8, 9], [(6, [8], []), (10, [], []), (11, [], []), (12, [], [13])]⟩
def pl47_1 : Plan := ⟨[0, 3], [(1, [3], [2]), (4, [], [5, 6, 7])]⟩
theorem ln_two {B : Int} (h : 4294967296 ≤ B.natAbs) : 2 ≤ ln B := by
  rcases Nat.lt_or_ge (ln B) 2 with h1 | h1
  · have := ln_lt B
    have h2 : 4294967296 ^ ln B ≤ 4294967296 ^ 1 := Nat.pow_le_pow_right (by decide) (by omega)
    omega
  · exact h1
theorem top_z {B : Int} (h : B ≠ 0) : (lmb B).getD ((lmb B).length - 1) 0 ≠ 0 := by
  rcases top_limbs B.natAbs with h1 | h1
  · rw [List.length_eq_zero_iff, limbs_nil] at h1; omega
  · exact h1
theorem tdiv_signs (A B : Int) : (if (sgn A != sgn B) = true then -((A.natAbs : Int) / B.natAbs) else (A.natAbs : Int) / B.natAbs) = A.tdiv B := by
  unfold sgn
  rcases Int.lt_or_le A 0 with hA | hA <;> rcases Int.lt_or_le B 0 with hB | hB
  · have h1 : (A.natAbs : Int) = -A := by omega
    have h2 : (B.natAbs : Int) = -B := by omega
    rw [if_neg (by simp [hA, hB]), h1, h2, ← Int.neg_tdiv_neg, Int.tdiv_eq_ediv_of_nonneg (by omega)]
  · have h1 : (A.natAbs : Int) = -A := by omega
    have h2 : (B.natAbs : Int) = B := by omega
    rw [if_pos (by simp [hA]; omega), h1, h2, ← Int.neg_neg A, Int.neg_tdiv, Int.neg_neg, Int.tdiv_eq_ediv_of_nonneg (by omega)]
  · have h1 : (A.natAbs : Int) = A := by omega
    have h2 : (B.natAbs : Int) = -B := by omega
    rw [if_pos (by simp [hB]; omega), h1, h2, ← Int.neg_neg (A.tdiv B), ← Int.tdiv_neg, Int.tdiv_eq_ediv_of_nonneg (by omega)]
  · have h1 : (A.natAbs : Int) = A := by omega
    have h2 : (B.natAbs : Int) = B := by omega
    rw [if_neg (by simp; omega), h1, h2, Int.tdiv_eq_ediv_of_nonneg (by omega)]
theorem tmod_signs (A B : Int) : (if sgn A = true then -((A.natAbs : Int) % B.natAbs) else (A.natAbs : Int) % B.natAbs) = A.tmod B := by
  have e : ((A.natAbs : Int) % B.natAbs) = (A.natAbs : Int) % B := by
    rcases Int.lt_or_le B 0 with hB | hB
    · rw [show (B.natAbs : Int) = -B by omega, Int.emod_neg]
    · rw [show (B.natAbs : Int) = B by omega]
  rw [e]
  unfold sgn
  rcases Int.lt_or_le A 0 with hA | hA
  · rw [if_pos (by simp [hA]), show (A.natAbs : Int) = -A by omega, ← Int.tmod_eq_emod_of_nonneg (by omega), Int.neg_tmod, Int.neg_neg]
  · rw [if_neg (by simp; omega), show (A.natAbs : Int) = A by omega, Int.tmod_eq_emod_of_nonneg hA]

theorem pu_div {a b : Int} {e : Int} : Pu (.tuple ⟨[Zn a, Zn b, .int .i64 e]⟩) := .tuple (.cons pu_in (.cons pu_in (.cons (.ground rfl) .nil)))
theorem fz_nil {H : Heap} : FzRel Tryz.prog H (.agg ⟨[.bool false, Vv eU []]⟩) (.agg ⟨[.bool false, .slice none 0 0]⟩) := .nz (.agg (.cons .rfl (.cons .vnil .nil)))


theorem val_q (A B : Int) : val (lmb ((A.natAbs : Int) / B.natAbs)) = (A.natAbs : Int) / B.natAbs := by
  rw [val_z]; have := Int.ediv_nonneg (show (0 : Int) ≤ A.natAbs by omega) (show (0 : Int) ≤ B.natAbs by omega); omega
theorem val_r (A : Int) {B : Int} (h : B ≠ 0) : val (lmb ((A.natAbs : Int) % B.natAbs)) = (A.natAbs : Int) % B.natAbs := by
  rw [val_z]; have := Int.emod_nonneg (A.natAbs : Int) (show (B.natAbs : Int) ≠ 0 by omega); omega
theorem ln_quo (A B : Int) : ln ((A.natAbs : Int) / B.natAbs) ≤ ln A := ln_mono (by
  have := Int.ediv_nonneg (show (0 : Int) ≤ A.natAbs by omega) (show (0 : Int) ≤ B.natAbs by omega)
  have := Int.ediv_le_self (B.natAbs : Int) (show (0 : Int) ≤ A.natAbs by omega)
  omega)
theorem ln_rem (A : Int) {B : Int} (h : B ≠ 0) : ln ((A.natAbs : Int) % B.natAbs) ≤ ln B := ln_mono (by
  have := Int.emod_nonneg (A.natAbs : Int) (show (B.natAbs : Int) ≠ 0 by omega)
  have := Int.emod_lt_of_pos (A.natAbs : Int) (show (0 : Int) < (B.natAbs : Int) by omega)
  omega)

theorem p43z {n m : Bool} {l k : List Int} (h1 : Lb l) (h2 : Lb k) (h0 : den m k = 0) : PC Tryz.prog 148 [In n l, In m k] (.tuple ⟨[Zn 0, Zn 0, .int .i64 1]⟩) := by
  refine PC.of (.cons pu_in (.cons pu_in .nil)) pu_div fun N hN => ?_
  refine ACalls.of_code T.hm (n := 36) Tryz.func148 rfl rfl rfl rfl ?_; simp only [List.replicate_succ, List.replicate_zero, List.cons_append, List.nil_append]
  simp (maxSteps := 1000000) (disch := first | exact sd | fail) only [go_sem, Nat.reduceAdd, Nat.reduceSub, Nat.reduceLeDiff, ↓reduceIte, decide_eq_true_eq, if_true, if_false, Bool.false_eq_true, Int.lt_irrefl, implies_true, true_and, and_true, eq_self, and_self, beq_self_eq_true, aw_plan (id := 6) pl43_6, pl43_6]
  refine PC.step (p148 h1) fun m1 j1 => ?_
  try simp only [Heap.next_push, Heap.next_set, Heap.next_kill, next_bump, next_E0] at j1
  simp (maxSteps := 1000000) (disch := first | exact sd | fail) only [go_sem, Nat.reduceAdd, Nat.reduceSub, Nat.reduceLeDiff, ↓reduceIte, decide_eq_true_eq, if_true, if_false, Bool.false_eq_true, Int.lt_irrefl, implies_true, true_and, and_true, eq_self, and_self, beq_self_eq_true, aw_plan (id := 6) pl43_6, pl43_6]
  refine PC.step (p148 h2) fun m2 j2 => ?_
  try simp only [Heap.next_push, Heap.next_set, Heap.next_kill, next_bump, next_E0] at j2
  simp (maxSteps := 1000000) (disch := first | exact sd | fail) only [go_sem, Nat.reduceAdd, Nat.reduceSub, Nat.reduceLeDiff, ↓reduceIte, decide_eq_true_eq, if_true, if_false, Bool.false_eq_true, Int.lt_irrefl, implies_true, true_and, and_true, eq_self, and_self, beq_self_eq_true, aw_plan (id := 6) pl43_6, pl43_6, h0, lmb_zero, List.length_nil, ln_zero]
  exact .tuple (.cons fz_nil (.cons fz_nil (.cons .rfl .nil)))
theorem p43 {n m : Bool} {l k : List Int} (h1 : Lb l) (h2 : Lb k) (bA : ln (den n l) ≤ 2 ^ 39) (bB : ln (den m k) ≤ 2 ^ 39) (h0 : den m k ≠ 0) :
    PC Tryz.prog 148 [In n l, In m k] (.tuple ⟨[Zn ((den n l).tdiv (den m k)), Zn ((den n l).tmod (den m k)), .int .i64 0]⟩) := by
  refine PC.of (.cons pu_in (.cons pu_in .nil)) pu_div fun N hN => ?_
  have q1 := p148 (n := n) h1
  have q2 := p148 (n := m) h2
  generalize hA : den n l = A at *
  generalize hB : den m k = B at *
  have hne : ¬ (ln B : Int) = 0 := by rw [Int.ofNat_eq_zero, ln_eq_zero]; exact h0
  have lq := ln_quo A B
  have lr := ln_rem A h0
  refine ACalls.of_code T.hm (n := 36) Tryz.func148 rfl rfl rfl rfl ?_; simp only [List.replicate_succ, List.replicate_zero, List.cons_append, List.nil_append]
  simp (maxSteps := 1000000) (disch := first | exact sd | fail) only [go_sem, Nat.reduceAdd, Nat.reduceSub, Nat.reduceLeDiff, ↓reduceIte, decide_eq_true_eq, if_true, if_false, Bool.false_eq_true, Int.lt_irrefl, implies_true, true_and, and_true, eq_self, and_self, beq_self_eq_true, aw_plan (id := 6) pl43_6, pl43_6]
  refine PC.step (q1) fun m1 j1 => ?_
  try simp only [Heap.next_push, Heap.next_set, Heap.next_kill, next_bump, next_E0] at j1
  simp (maxSteps := 1000000) (disch := first | exact sd | fail) only [go_sem, Nat.reduceAdd, Nat.reduceSub, Nat.reduceLeDiff, ↓reduceIte, decide_eq_true_eq, if_true, if_false, Bool.false_eq_true, Int.lt_irrefl, implies_true, true_and, and_true, eq_self, and_self, beq_self_eq_true, aw_plan (id := 6) pl43_6, pl43_6]
  refine PC.step (q2) fun m2 j2 => ?_
  try simp only [Heap.next_push, Heap.next_set, Heap.next_kill, next_bump, next_E0] at j2
  simp (maxSteps := 1000000) (disch := first | exact sd | fail) only [go_sem, Nat.reduceAdd, Nat.reduceSub, Nat.reduceLeDiff, ↓reduceIte, decide_eq_true_eq, if_true, if_false, Bool.false_eq_true, Int.lt_irrefl, implies_true, true_and, and_true, eq_self, and_self, beq_self_eq_true, aw_plan (id := 6) pl43_6, pl43_6, hne]
  refine PC.step (p149 (A := (A.natAbs : Int)) (B := (B.natAbs : Int)) (by omega) (by omega) (by exact bA) (by exact bB)) fun m3 j3 => ?_
  try simp only [Heap.next_push, Heap.next_set, Heap.next_kill, next_bump, next_E0] at j3
  simp (maxSteps := 1000000) (disch := first | exact sd | fail) only [go_sem, Nat.reduceAdd, Nat.reduceSub, Nat.reduceLeDiff, ↓reduceIte, decide_eq_true_eq, if_true, if_false, Bool.false_eq_true, Int.lt_irrefl, implies_true, true_and, and_true, eq_self, and_self, beq_self_eq_true, aw_plan (id := 6) pl43_6, pl43_6]
  refine PC.step (p150 (lb_z (by omega))) fun m4 j4 => ?_
  try simp only [Heap.next_push, Heap.next_set, Heap.next_kill, next_bump, next_E0] at j4
  rw [val_q, tdiv_signs]
  simp (maxSteps := 1000000) (disch := first | exact sd | fail) only [go_sem, Nat.reduceAdd, Nat.reduceSub, Nat.reduceLeDiff, ↓reduceIte, decide_eq_true_eq, if_true, if_false, Bool.false_eq_true, Int.lt_irrefl, implies_true, true_and, and_true, eq_self, and_self, beq_self_eq_true, aw_plan (id := 6) pl43_6, pl43_6]
  refine PC.step (p150 (lb_z (by omega))) fun m5 j5 => ?_
  try simp only [Heap.next_push, Heap.next_set, Heap.next_kill, next_bump, next_E0] at j5
  rw [val_r A h0, tmod_signs]
  simp (maxSteps := 1000000) (disch := first | exact sd | fail) only [go_sem, Nat.reduceAdd, Nat.reduceSub, Nat.reduceLeDiff, ↓reduceIte, decide_eq_true_eq, if_true, if_false, Bool.false_eq_true, Int.lt_irrefl, implies_true, true_and, and_true, eq_self, and_self, beq_self_eq_true, aw_plan (id := 6) pl43_6, pl43_6]
  exact .rfl

end Go.Abs
