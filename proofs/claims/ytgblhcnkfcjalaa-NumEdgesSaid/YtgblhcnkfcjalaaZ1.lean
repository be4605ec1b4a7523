/- Numbers and their limbs. -/
import Derived.Test.YtgblhcnkfcjalaaN4
set_option linter.unusedVariables false
set_option linter.unusedSimpArgs false
set_option linter.unusedVariables false
namespace Go.Abs
open Go Go.Proofs

def limbs (n : Nat) : List Int := if n = 0 then [] else ((n % 4294967296 : Nat) : Int) :: limbs (n / 4294967296)
  termination_by n
  decreasing_by omega

theorem limbs_zero : limbs 0 = [] := by rw [limbs, if_pos rfl]
theorem limbs_pos {n : Nat} (h : n ≠ 0) : limbs n = ((n % 4294967296 : Nat) : Int) :: limbs (n / 4294967296) := by rw [limbs, if_neg h]
theorem limbs_nil {n : Nat} : limbs n = [] ↔ n = 0 := by
  constructor
  · intro h
    by_cases h0 : n = 0
    · exact h0
    · rw [limbs_pos h0] at h; cases h
  · rintro rfl; exact limbs_zero
theorem lim_limbs (n : Nat) : Lim (limbs n) := by
  induction n using Nat.strongRecOn with
  | ind n ih =>
    by_cases h : n = 0
    · subst h; rw [limbs_zero]; exact Lim.nil
    · rw [limbs_pos h]; exact Lim.cons (by omega) (ih _ (by omega))
theorem val_limbs (n : Nat) : val (limbs n) = n := by
  induction n using Nat.strongRecOn with
  | ind n ih =>
    by_cases h : n = 0
    · subst h; rw [limbs_zero]; rfl
    · rw [limbs_pos h]; simp only [val]; rw [ih _ (by omega)]; omega
theorem top_limbs (n : Nat) : Top (limbs n) := by
  induction n using Nat.strongRecOn with
  | ind n ih =>
    by_cases h : n = 0
    · subst h; rw [limbs_zero]; exact .inl rfl
    · rw [limbs_pos h, Top.cons_iff]
      refine ⟨ih _ (by omega), fun h1 => ?_⟩
      rw [limbs_nil] at h1
      omega
theorem limbs_of {l : List Int} (hl : Lim l) (ht : Top l) : limbs (val l).toNat = l :=
  val_inj (lim_limbs _) hl (top_limbs _) ht (by rw [val_limbs]; have := val_nonneg hl; omega)
theorem limbs_of' {l : List Int} {n : Nat} (hl : Lim l) (ht : Top l) (h : val l = n) : l = limbs n := by
  rw [← limbs_of hl ht, h]; rfl
theorem limbs_trimL {l : List Int} {n : Nat} (hl : Lim l) (h : val l = n) : trimL l = limbs n :=
  limbs_of' hl.trimL (top_trimL l) (by rw [val_trimL, h])
theorem limbs_inj {a b : Nat} (h : limbs a = limbs b) : a = b := by
  have := congrArg val h
  rw [val_limbs, val_limbs] at this
  omega

theorem limbs_len_le : ∀ (K : Nat) {n : Nat}, n < 4294967296 ^ K → (limbs n).length ≤ K
  | 0, n, h => by
    have : n = 0 := by simpa using h
    subst this; rw [limbs_zero]; simp
  | K + 1, n, h => by
    by_cases h0 : n = 0
    · subst h0; rw [limbs_zero]; simp
    · rw [limbs_pos h0, List.length_cons]
      have := limbs_len_le K (n := n / 4294967296) (by rw [Nat.pow_succ] at h; omega)
      omega
theorem limbs_len_lt (n : Nat) : n < 4294967296 ^ (limbs n).length := by
  induction n using Nat.strongRecOn with
  | ind n ih =>
    by_cases h : n = 0
    · subst h; rw [limbs_zero]; decide
    · rw [limbs_pos h, List.length_cons, Nat.pow_succ]
      have := ih (n / 4294967296) (by omega)
      omega

/-- How many limbs a number has. -/
def ln (z : Int) : Nat := (limbs z.natAbs).length
theorem ln_lt (z : Int) : z.natAbs < 4294967296 ^ ln z := limbs_len_lt _
theorem ln_le {z : Int} {K : Nat} (h : z.natAbs < 4294967296 ^ K) : ln z ≤ K := limbs_len_le K h
theorem ln_mono {a b : Int} (h : a.natAbs ≤ b.natAbs) : ln a ≤ ln b := ln_le (Nat.lt_of_le_of_lt h (ln_lt b))
theorem ln_zero : ln 0 = 0 := by unfold ln; rw [show Int.natAbs 0 = 0 from rfl, limbs_zero]; rfl
theorem ln_neg (z : Int) : ln (-z) = ln z := by unfold ln; rw [Int.natAbs_neg]
theorem ln_eq_zero {z : Int} : ln z = 0 ↔ z = 0 := by
  unfold ln
  rw [List.length_eq_zero_iff, limbs_nil]
  omega
theorem pow_le {K L : Nat} (h : K ≤ L) : 4294967296 ^ K ≤ 4294967296 ^ L := Nat.pow_le_pow_right (by decide) h
theorem ln_add (a b : Int) : ln (a + b) ≤ max (ln a) (ln b) + 1 := by
  refine ln_le ?_
  have h1 := ln_lt a
  have h2 := ln_lt b
  have h3 := pow_le (Nat.le_max_left (ln a) (ln b))
  have h4 := pow_le (Nat.le_max_right (ln a) (ln b))
  rw [Nat.pow_succ]
  omega
theorem ln_sub (a b : Int) : ln (a - b) ≤ max (ln a) (ln b) + 1 := by
  have := ln_add a (-b)
  rw [ln_neg] at this
  exact this
theorem ln_mul (a b : Int) : ln (a * b) ≤ ln a + ln b := by
  refine ln_le ?_
  rw [Int.natAbs_mul, Nat.pow_add]
  exact Nat.mul_lt_mul'' (ln_lt a) (ln_lt b)
theorem ln_tdiv (a b : Int) : ln (a.tdiv b) ≤ ln a := ln_mono (by rw [Int.natAbs_tdiv]; exact Nat.div_le_self _ _)
theorem ln_tmod (a b : Int) : ln (a.tmod b) ≤ ln a := ln_mono (by rw [Int.natAbs_tmod]; exact Nat.mod_le _ _)
theorem ln_tmod' {a b : Int} (h : b ≠ 0) : ln (a.tmod b) ≤ ln b := ln_mono (by
  rw [Int.natAbs_tmod]; exact Nat.le_of_lt (Nat.mod_lt _ (by omega)))
theorem ln_small {z : Int} (h : z.natAbs < 4294967296) : ln z ≤ 1 := ln_le (by simpa using h)

/-- What a number is, which may not be one. -/
def den (ng : Bool) (l : List Int) : Int := if mayB ng l = true then (if ng = true then -(val l) else val l) else 0

theorem mayB_top {ng : Bool} {l : List Int} (h : mayB ng l = true) : Top l ∧ (l = [] → ng = false) := by
  unfold mayB at h
  split at h
  · rename_i h0
    exact ⟨.inl h0, fun _ => by simpa using h⟩
  · rename_i h0
    exact ⟨.inr (by simpa using h), fun h1 => absurd (by rw [h1]; rfl) h0⟩
theorem nz_limbs {ng : Bool} {l : List Int} (hl : Lim l) : nzL ng l = limbs (den ng l).natAbs := by
  unfold nzL den
  have hv := val_nonneg hl
  cases hm : mayB ng l with
  | true =>
    simp only [if_true]
    refine limbs_of' hl (mayB_top hm).1 ?_
    cases ng <;> simp <;> omega
  | false => simp only [Bool.false_eq_true, if_false]; exact limbs_zero.symm
theorem nz_sign {ng : Bool} {l : List Int} (hl : Lim l) : nzS ng l = decide (den ng l < 0) := by
  unfold nzS den
  have hv := val_nonneg hl
  cases hm : mayB ng l with
  | true =>
    simp only [if_true]
    cases ng with
    | false => simp; omega
    | true =>
      have h1 := mayB_top hm
      have : l ≠ [] := fun h => by cases h1.2 h
      have := val_pos hl h1.1 this
      simp; omega
  | false => simp
theorem may_limbs (z : Int) : mayB (decide (z < 0)) (limbs z.natAbs) = true := by
  unfold mayB
  split
  · rename_i h
    rw [List.length_eq_zero_iff, limbs_nil] at h
    simp; omega
  · rename_i h
    rcases top_limbs z.natAbs with h1 | h1
    · exact absurd h1 h
    · simpa using h1
theorem den_limbs (z : Int) : den (decide (z < 0)) (limbs z.natAbs) = z := by
  unfold den
  rw [may_limbs, val_limbs]
  simp only [if_true, decide_eq_true_eq]
  split <;> omega

/-- A number, or what is taken for one, of so many limbs at most. -/
def IZ (H : Heap) (v : Value) (z : Int) (K : Nat) : Prop := ∃ ng l, IA Try.prog H v ng l ∧ den ng l = z ∧ l.length ≤ K
/-- A number in its form. -/
def IN (H : Heap) (v : Value) (z : Int) : Prop := IA Try.prog H v (decide (z < 0)) (limbs z.natAbs)

theorem IZ.mono {H H' : Heap} {v : Value} {z : Int} {K : Nat} (h : IZ H v z K) (hle : Hle H H') : IZ H' v z K := by
  obtain ⟨ng, l, h1, h2, h3⟩ := h
  exact ⟨ng, l, h1.mono hle, h2, h3⟩
theorem IN.mono {H H' : Heap} {v : Value} {z : Int} (h : IN H v z) (hle : Hle H H') : IN H' v z := IA.mono h hle
theorem IZ.more {H : Heap} {v : Value} {z : Int} {K L : Nat} (h : IZ H v z K) (hle : K ≤ L) : IZ H v z L := by
  obtain ⟨ng, l, h1, h2, h3⟩ := h
  exact ⟨ng, l, h1, h2, by omega⟩
theorem IN.iz {H : Heap} {v : Value} {z : Int} (h : IN H v z) : IZ H v z (ln z) := ⟨_, _, h, den_limbs z, Nat.le_refl _⟩
theorem IN.iz' {H : Heap} {v : Value} {z : Int} {K : Nat} (h : IN H v z) (hk : ln z ≤ K) : IZ H v z K := h.iz.more hk
theorem IA.in_ {H : Heap} {v : Value} {ng : Bool} {l : List Int} (hl : Lim l) (h : IA Try.prog H v (if trimL l = [] then false else ng) (trimL l)) : IN H v (if ng = true then -(val l) else val l) := by
  have hv := val_nonneg hl
  have e : trimL l = limbs (if ng = true then -(val l) else val l).natAbs := limbs_trimL hl (by cases ng <;> simp <;> omega)
  unfold IN
  rw [← e]
  have e2 : (if trimL l = [] then false else ng) = decide ((if ng = true then -(val l) else val l) < 0) := by
    rw [e]
    by_cases h0 : limbs (if ng = true then -(val l) else val l).natAbs = []
    · rw [if_pos h0]
      rw [limbs_nil] at h0
      symm
      rw [decide_eq_false_iff_not]
      omega
    · rw [if_neg h0]
      rw [limbs_nil] at h0
      cases ng with
      | false => simp; omega
      | true => simp at h0 ⊢; omega
  rw [e2] at h
  exact h
end Go.Abs
