/- Joined: Z1, Z2, Z3, Z4, Z5. -/
import Derived.Test.YtboekagofficpaaGreatN4
/- Numbers and their limbs. -/
set_option linter.unusedVariables false
set_option linter.unusedSimpArgs false
set_option linter.unusedVariables false
namespace Go.Abs
open Go Go.Proofs

def limbs (n : Nat) : List Int := if n = 0 then [] else ((n % 4294967296 : Nat) : Int) :: limbs (n / 4294967296)
  termination_by n
  decreasing_by omega

theorem limbs_zero : limbs 0 = [] := by rw [limbs, if_pos rfl]
theorem limbs_pos {n : Nat} (h : n ≠ 0) : limbs n = ((n % 4294967296 : Nat) : Int) :: limbs (n / 4294967296) := by rw [limbs, if_neg h]
theorem limbs_nil {n : Nat} : limbs n = [] ↔ n = 0 := by
  constructor
  · intro h
    by_cases h0 : n = 0
    · exact h0
    · rw [limbs_pos h0] at h; cases h
  · rintro rfl; exact limbs_zero
theorem lim_limbs (n : Nat) : Lim (limbs n) := by
  induction n using Nat.strongRecOn with
  | ind n ih =>
    by_cases h : n = 0
    · subst h; rw [limbs_zero]; exact Lim.nil
    · rw [limbs_pos h]; exact Lim.cons (by omega) (ih _ (by omega))
theorem val_limbs (n : Nat) : val (limbs n) = n := by
  induction n using Nat.strongRecOn with
  | ind n ih =>
    by_cases h : n = 0
    · subst h; rw [limbs_zero]; rfl
    · rw [limbs_pos h]; simp only [val]; rw [ih _ (by omega)]; omega
theorem top_limbs (n : Nat) : Top (limbs n) := by
  induction n using Nat.strongRecOn with
  | ind n ih =>
    by_cases h : n = 0
    · subst h; rw [limbs_zero]; exact .inl rfl
    · rw [limbs_pos h, Top.cons_iff]
      refine ⟨ih _ (by omega), fun h1 => ?_⟩
      rw [limbs_nil] at h1
      omega
theorem limbs_of {l : List Int} (hl : Lim l) (ht : Top l) : limbs (val l).toNat = l :=
  val_inj (lim_limbs _) hl (top_limbs _) ht (by rw [val_limbs]; have := val_nonneg hl; omega)
theorem limbs_of' {l : List Int} {n : Nat} (hl : Lim l) (ht : Top l) (h : val l = n) : l = limbs n := by
  rw [← limbs_of hl ht, h]; rfl
theorem limbs_trimL {l : List Int} {n : Nat} (hl : Lim l) (h : val l = n) : trimL l = limbs n :=
  limbs_of' hl.trimL (top_trimL l) (by rw [val_trimL, h])
theorem limbs_inj {a b : Nat} (h : limbs a = limbs b) : a = b := by
  have := congrArg val h
  rw [val_limbs, val_limbs] at this
  omega

theorem limbs_len_le : ∀ (K : Nat) {n : Nat}, n < 4294967296 ^ K → (limbs n).length ≤ K
  | 0, n, h => by
    have : n = 0 := by simpa using h
    subst this; rw [limbs_zero]; simp
  | K + 1, n, h => by
    by_cases h0 : n = 0
    · subst h0; rw [limbs_zero]; simp
    · rw [limbs_pos h0, List.length_cons]
      have := limbs_len_le K (n := n / 4294967296) (by rw [Nat.pow_succ] at h; omega)
      omega
theorem limbs_len_lt (n : Nat) : n < 4294967296 ^ (limbs n).length := by
  induction n using Nat.strongRecOn with
  | ind n ih =>
    by_cases h : n = 0
    · subst h; rw [limbs_zero]; decide
    · rw [limbs_pos h, List.length_cons, Nat.pow_succ]
      have := ih (n / 4294967296) (by omega)
      omega

/-- How many limbs a number has. -/
def ln (z : Int) : Nat := (limbs z.natAbs).length
theorem ln_lt (z : Int) : z.natAbs < 4294967296 ^ ln z := limbs_len_lt _
theorem ln_le {z : Int} {K : Nat} (h : z.natAbs < 4294967296 ^ K) : ln z ≤ K := limbs_len_le K h
theorem ln_mono {a b : Int} (h : a.natAbs ≤ b.natAbs) : ln a ≤ ln b := ln_le (Nat.lt_of_le_of_lt h (ln_lt b))
theorem ln_zero : ln 0 = 0 := by unfold ln; rw [show Int.natAbs 0 = 0 from rfl, limbs_zero]; rfl
theorem ln_neg (z : Int) : ln (-z) = ln z := by unfold ln; rw [Int.natAbs_neg]
theorem ln_eq_zero {z : Int} : ln z = 0 ↔ z = 0 := by
  unfold ln
  rw [List.length_eq_zero_iff, limbs_nil]
  omega
theorem pow_le {K L : Nat} (h : K ≤ L) : 4294967296 ^ K ≤ 4294967296 ^ L := Nat.pow_le_pow_right (by decide) h
theorem ln_add (a b : Int) : ln (a + b) ≤ max (ln a) (ln b) + 1 := by
  refine ln_le ?_
  have h1 := ln_lt a
  have h2 := ln_lt b
  have h3 := pow_le (Nat.le_max_left (ln a) (ln b))
  have h4 := pow_le (Nat.le_max_right (ln a) (ln b))
  rw [Nat.pow_succ]
  omega
theorem ln_sub (a b : Int) : ln (a - b) ≤ max (ln a) (ln b) + 1 := by
  have := ln_add a (-b)
  rw [ln_neg] at this
  exact this
theorem ln_mul (a b : Int) : ln (a * b) ≤ ln a + ln b := by
  refine ln_le ?_
  rw [Int.natAbs_mul, Nat.pow_add]
  exact Nat.mul_lt_mul'' (ln_lt a) (ln_lt b)
theorem ln_tdiv (a b : Int) : ln (a.tdiv b) ≤ ln a := ln_mono (by rw [Int.natAbs_tdiv]; exact Nat.div_le_self _ _)
theorem ln_tmod (a b : Int) : ln (a.tmod b) ≤ ln a := ln_mono (by rw [Int.natAbs_tmod]; exact Nat.mod_le _ _)
theorem ln_tmod' {a b : Int} (h : b ≠ 0) : ln (a.tmod b) ≤ ln b := ln_mono (by
  rw [Int.natAbs_tmod]; exact Nat.le_of_lt (Nat.mod_lt _ (by omega)))
theorem ln_small {z : Int} (h : z.natAbs < 4294967296) : ln z ≤ 1 := ln_le (by simpa using h)

/-- What a number is, which may not be one. -/
def den (ng : Bool) (l : List Int) : Int := if mayB ng l = true then (if ng = true then -(val l) else val l) else 0

theorem mayB_top {ng : Bool} {l : List Int} (h : mayB ng l = true) : Top l ∧ (l = [] → ng = false) := by
  unfold mayB at h
  split at h
  · rename_i h0
    exact ⟨.inl h0, fun _ => by simpa using h⟩
  · rename_i h0
    exact ⟨.inr (by simpa using h), fun h1 => absurd (by rw [h1]; rfl) h0⟩
theorem nz_limbs {ng : Bool} {l : List Int} (hl : Lim l) : nzL ng l = limbs (den ng l).natAbs := by
  unfold nzL den
  have hv := val_nonneg hl
  cases hm : mayB ng l with
  | true =>
    simp only [if_true]
    refine limbs_of' hl (mayB_top hm).1 ?_
    cases ng <;> simp <;> omega
  | false => simp only [Bool.false_eq_true, if_false]; exact limbs_zero.symm
theorem nz_sign {ng : Bool} {l : List Int} (hl : Lim l) : nzS ng l = decide (den ng l < 0) := by
  unfold nzS den
  have hv := val_nonneg hl
  cases hm : mayB ng l with
  | true =>
    simp only [if_true]
    cases ng with
    | false => simp; omega
    | true =>
      have h1 := mayB_top hm
      have : l ≠ [] := fun h => by cases h1.2 h
      have := val_pos hl h1.1 this
      simp; omega
  | false => simp
theorem may_limbs (z : Int) : mayB (decide (z < 0)) (limbs z.natAbs) = true := by
  unfold mayB
  split
  · rename_i h
    rw [List.length_eq_zero_iff, limbs_nil] at h
    simp; omega
  · rename_i h
    rcases top_limbs z.natAbs with h1 | h1
    · exact absurd h1 h
    · simpa using h1
theorem den_limbs (z : Int) : den (decide (z < 0)) (limbs z.natAbs) = z := by
  unfold den
  rw [may_limbs, val_limbs]
  simp only [if_true, decide_eq_true_eq]
  split <;> omega

/-- A number, or what is taken for one, of so many limbs at most. -/
def IZ (H : Heap) (v : Value) (z : Int) (K : Nat) : Prop := ∃ ng l, IA Tryz.prog H v ng l ∧ den ng l = z ∧ l.length ≤ K
/-- A number in its form. -/
def IN (H : Heap) (v : Value) (z : Int) : Prop := IA Tryz.prog H v (decide (z < 0)) (limbs z.natAbs)

theorem IZ.mono {H H' : Heap} {v : Value} {z : Int} {K : Nat} (h : IZ H v z K) (hle : Hle H H') : IZ H' v z K := by
  obtain ⟨ng, l, h1, h2, h3⟩ := h
  exact ⟨ng, l, h1.mono hle, h2, h3⟩
theorem IN.mono {H H' : Heap} {v : Value} {z : Int} (h : IN H v z) (hle : Hle H H') : IN H' v z := IA.mono h hle
theorem IZ.more {H : Heap} {v : Value} {z : Int} {K L : Nat} (h : IZ H v z K) (hle : K ≤ L) : IZ H v z L := by
  obtain ⟨ng, l, h1, h2, h3⟩ := h
  exact ⟨ng, l, h1, h2, by omega⟩
theorem IN.iz {H : Heap} {v : Value} {z : Int} (h : IN H v z) : IZ H v z (ln z) := ⟨_, _, h, den_limbs z, Nat.le_refl _⟩
theorem IN.iz' {H : Heap} {v : Value} {z : Int} {K : Nat} (h : IN H v z) (hk : ln z ≤ K) : IZ H v z K := h.iz.more hk
theorem IA.in_ {H : Heap} {v : Value} {ng : Bool} {l : List Int} (hl : Lim l) (h : IA Tryz.prog H v (if trimL l = [] then false else ng) (trimL l)) : IN H v (if ng = true then -(val l) else val l) := by
  have hv := val_nonneg hl
  have e : trimL l = limbs (if ng = true then -(val l) else val l).natAbs := limbs_trimL hl (by cases ng <;> simp <;> omega)
  unfold IN
  rw [← e]
  have e2 : (if trimL l = [] then false else ng) = decide ((if ng = true then -(val l) else val l) < 0) := by
    rw [e]
    by_cases h0 : limbs (if ng = true then -(val l) else val l).natAbs = []
    · rw [if_pos h0]
      rw [limbs_nil] at h0
      symm
      rw [decide_eq_false_iff_not]
      omega
    · rw [if_neg h0]
      rw [limbs_nil] at h0
      cases ng with
      | false => simp; omega
      | true => simp at h0 ⊢; omega
  rw [e2] at h
  exact h
end Go.Abs

/- What is done limb by limb: sums, differences, products, by one limb, which is greater. -/
set_option linter.unusedVariables false
set_option linter.unusedSimpArgs false
set_option linter.unusedVariables false
namespace Go.Abs

abbrev BB : Int := 4294967296

/-! ### sums -/
def plusL : List Int → List Int → Int → List Int
  | [], _, c => [c]
  | x :: a, b, c => ((c + x + b.headD 0) % 4294967296) :: plusL a b.tail ((c + x + b.headD 0) / 4294967296)

theorem val_tail {b : List Int} : val b = b.headD 0 + 4294967296 * val b.tail := by cases b <;> simp [val]
theorem Lim.headD {l : List Int} (h : Lim l) : 0 ≤ l.headD 0 ∧ l.headD 0 < 4294967296 := by
  cases l with
  | nil => simp
  | cons x l => exact h.head
theorem Lim.tl {l : List Int} (h : Lim l) : Lim l.tail := by
  cases l with
  | nil => exact Lim.nil
  | cons x l => exact h.tail

theorem plusL_val : ∀ (a b : List Int) (c : Int), b.length ≤ a.length → val (plusL a b c) = val a + val b + c
  | [], b, c, h => by
    have : b = [] := List.length_eq_zero_iff.1 (by simpa using h)
    subst this; simp [plusL, val]
  | x :: a, b, c, h => by
    simp only [plusL, val]
    rw [plusL_val a b.tail _ (by simp at h ⊢; omega), val_tail (b := b)]
    omega
theorem plusL_lim : ∀ (a b : List Int) (c : Int), Lim a → Lim b → 0 ≤ c ∧ c < 4294967296 → Lim (plusL a b c)
  | [], b, c, _, _, hc => Lim.cons hc Lim.nil
  | x :: a, b, c, ha, hb, hc => by
    have := ha.head
    have := hb.headD
    exact Lim.cons (by omega) (plusL_lim a b.tail _ ha.tail hb.tl (by omega))
theorem plusL_len : ∀ (a b : List Int) (c : Int), (plusL a b c).length = a.length + 1
  | [], b, c => rfl
  | x :: a, b, c => by simp [plusL, plusL_len a]

/-! ### differences -/
def minusL : List Int → List Int → Int → List Int
  | [], _, _ => []
  | x :: a, b, c => ((x - (c + b.headD 0)) % 4294967296) :: minusL a b.tail (if x < c + b.headD 0 then 1 else 0)

theorem minusL_val : ∀ (a b : List Int) (c : Int), Lim a → Lim b → 0 ≤ c ∧ c ≤ 1 → b.length ≤ a.length → val b + c ≤ val a → val (minusL a b c) = val a - val b - c
  | [], b, c, _, _, hc, hl, h => by
    have : b = [] := List.length_eq_zero_iff.1 (by simpa using hl)
    subst this
    simp only [minusL, val] at h ⊢
    omega
  | x :: a, b, c, ha, hb, hc, hl, h => by
    have h1 := ha.head
    have h2 := hb.headD
    rw [val_tail (b := b)] at h ⊢
    simp only [minusL, val] at h ⊢
    rw [minusL_val a b.tail _ ha.tail hb.tl (by split <;> omega) (by simp at hl ⊢; omega) (by split <;> omega)]
    split <;> omega
theorem minusL_lim : ∀ (a b : List Int) (c : Int), Lim (minusL a b c)
  | [], _, _ => Lim.nil
  | x :: a, b, c => Lim.cons (by omega) (minusL_lim a _ _)
theorem minusL_len : ∀ (a b : List Int) (c : Int), (minusL a b c).length = a.length
  | [], _, _ => rfl
  | x :: a, b, c => by simp [minusL, minusL_len a]

/-! ### products -/
/-- A row times a limb, and what is there; what is carried goes into the next place. -/
def rowL (u : Int) : List Int → List Int → Int → List Int
  | [], [], _ => []
  | [], _ :: o, c => c :: o
  | _ :: _, [], _ => []
  | v :: y, w :: o, c => ((c + (u * v + w)) % 4294967296) :: rowL u y o ((c + (u * v + w)) / 4294967296)
def mulL : List Int → List Int → List Int → List Int
  | [], _, o => o
  | u :: x, y, o => match rowL u y o 0 with
    | [] => []
    | z :: r => z :: mulL x y r

theorem rowL_len (u : Int) : ∀ (y o : List Int) (c : Int), y.length < o.length → (rowL u y o c).length = o.length
  | [], [], _, h => by simp at h
  | [], w :: o, c, h => rfl
  | v :: y, [], c, h => by simp at h
  | v :: y, w :: o, c, h => by simp only [rowL, List.length_cons]; rw [rowL_len u y o _ (by simpa using h)]
theorem mul_bound {u v : Int} (hu : 0 ≤ u ∧ u < 4294967296) (hv : 0 ≤ v ∧ v < 4294967296) : 0 ≤ u * v ∧ u * v ≤ 18446744065119617025 := by
  refine ⟨Int.mul_nonneg hu.1 hv.1, ?_⟩
  have := Int.mul_le_mul (a := u) (b := v) (c := 4294967295) (d := 4294967295) (by omega) (by omega) hv.1 (by omega)
  omega
theorem rowL_step {u v w c : Int} (hu : 0 ≤ u ∧ u < 4294967296) (hv : 0 ≤ v ∧ v < 4294967296) (hw : 0 ≤ w ∧ w < 4294967296) (hc : 0 ≤ c ∧ c < 4294967296) :
    0 ≤ c + (u * v + w) ∧ c + (u * v + w) < 18446744073709551616 ∧ 0 ≤ (c + (u * v + w)) / 4294967296 ∧ (c + (u * v + w)) / 4294967296 < 4294967296 := by
  have := mul_bound hu hv
  omega
theorem rowL_lim {u : Int} (hu : 0 ≤ u ∧ u < 4294967296) : ∀ (y o : List Int) (c : Int), Lim y → Lim o → 0 ≤ c ∧ c < 4294967296 → Lim (rowL u y o c)
  | [], [], _, _, _, _ => Lim.nil
  | [], w :: o, c, _, ho, hc => Lim.cons hc ho.tail
  | v :: y, [], c, _, _, _ => Lim.nil
  | v :: y, w :: o, c, hy, ho, hc => by
    have := rowL_step hu hy.head ho.head hc
    exact Lim.cons (by omega) (rowL_lim hu y o _ hy.tail ho.tail (by omega))
/-- The place that is written over held nought. -/
theorem rowL_val (u : Int) : ∀ (y o : List Int) (c : Int), y.length < o.length → o.getD y.length 0 = 0 → val (rowL u y o c) = u * val y + val o + c
  | [], [], _, h, _ => by simp at h
  | [], w :: o, c, h, h0 => by
    simp at h0
    simp only [rowL, val, h0]; omega
  | v :: y, [], c, h, _ => by simp at h
  | v :: y, w :: o, c, h, h0 => by
    simp only [rowL, val]
    have e : u * (v + 4294967296 * val y) = u * v + 4294967296 * (u * val y) := by rw [Int.mul_add, Int.mul_left_comm]
    rw [rowL_val u y o _ (by simpa using h) (by simpa using h0), e]
    generalize u * v = p
    generalize u * val y = q
    omega
theorem rowL_rest (u : Int) : ∀ (y o : List Int) (c : Int) (j : Nat), y.length < o.length → y.length < j → (rowL u y o c).getD j 0 = o.getD j 0
  | [], [], _, _, h, _ => by simp at h
  | [], w :: o, c, j, h, hj => by
    obtain ⟨k, rfl⟩ : ∃ k, j = k + 1 := ⟨j - 1, by simp at hj; omega⟩
    simp [rowL]
  | v :: y, [], c, _, h, _ => by simp at h
  | v :: y, w :: o, c, j, h, hj => by
    obtain ⟨k, rfl⟩ : ∃ k, j = k + 1 := ⟨j - 1, by simp at hj; omega⟩
    simp only [rowL, List.getD_cons_succ]
    exact rowL_rest u y o _ k (by simpa using h) (by simpa using hj)

theorem mulL_all : ∀ (x y o : List Int), Lim x → Lim y → Lim o → o.length = x.length + y.length → (∀ j, y.length ≤ j → o.getD j 0 = 0) →
    val (mulL x y o) = val x * val y + val o ∧ Lim (mulL x y o) ∧ (mulL x y o).length = o.length
  | [], y, o, _, _, ho, hl, hz => by simp [mulL, val, ho]
  | u :: x, y, o, hx, hy, ho, hl, hz => by
    have h1 := rowL_len u y o 0 (by simp at hl; omega)
    have h2 := rowL_lim hx.head y o 0 hy ho (by omega)
    have h3 := rowL_val u y o 0 (by simp at hl; omega) (hz _ (Nat.le_refl _))
    have h4 := fun j hj => rowL_rest u y o 0 j (by simp at hl; omega) hj
    simp only [mulL]
    revert h1 h2 h3 h4
    cases rowL u y o 0 with
    | nil => intro h1; simp at h1 hl; omega
    | cons z r =>
      intro h1 h2 h3 h4
      obtain ⟨k1, k2, k3⟩ := mulL_all x y r hx.tail hy h2.tail (by simp at h1 hl; omega) (fun j hj => by
        have := h4 (j + 1) (by omega)
        simp only [List.getD_cons_succ] at this
        rw [this]; exact hz _ (by omega))
      refine ⟨?_, Lim.cons h2.head k2, by simp only [List.length_cons] at h1 ⊢; omega⟩
      simp only [val] at h3 ⊢
      rw [k1, Int.add_mul, Int.mul_assoc]
      generalize val x * val y = p at *
      generalize u * val y = q at *
      omega
theorem mulL_val {x y : List Int} (hx : Lim x) (hy : Lim y) : val (mulL x y (List.replicate (x.length + y.length) 0)) = val x * val y ∧ Lim (mulL x y (List.replicate (x.length + y.length) 0)) ∧ (mulL x y (List.replicate (x.length + y.length) 0)).length = x.length + y.length := by
  have hz : ∀ n, val (List.replicate n 0) = 0 := by
    intro n
    induction n with
    | zero => rfl
    | succ n ih => simp [List.replicate_succ, val, ih]
  have h := mulL_all x y (List.replicate (x.length + y.length) 0) hx hy (fun z hz => by rw [List.eq_of_mem_replicate hz]; omega) (by simp) (fun j _ => by
    rw [List.getD_eq_getElem?_getD, List.getElem?_replicate]; split <;> rfl)
  rw [hz, Int.add_zero, List.length_replicate] at h
  exact h

/-! ### by one limb -/
def smallL (d : Int) : List Int → List Int × Int
  | [] => ([], 0)
  | x :: l => (((smallL d l).2 * 4294967296 + x) / d :: (smallL d l).1, ((smallL d l).2 * 4294967296 + x) % d)
theorem smallL_len (d : Int) : ∀ l, (smallL d l).1.length = l.length
  | [] => rfl
  | x :: l => by simp [smallL, smallL_len d l]
theorem smallL_rest {d : Int} (hd : 0 < d) : ∀ l, 0 ≤ (smallL d l).2 ∧ (smallL d l).2 < d
  | [] => by simp [smallL, hd]
  | x :: l => by simp only [smallL]; exact ⟨Int.emod_nonneg _ (by omega), Int.emod_lt_of_pos _ hd⟩
theorem smallL_val {d : Int} : ∀ l, val l = val (smallL d l).1 * d + (smallL d l).2
  | [] => by simp [smallL, val]
  | x :: l => by
    have ih := smallL_val (d := d) l
    have h := Int.mul_ediv_add_emod ((smallL d l).2 * 4294967296 + x) d
    rw [Int.mul_comm d] at h
    simp only [smallL, val]
    rw [Int.add_mul, Int.mul_assoc, ih]
    generalize (((smallL d l).2 * 4294967296 + x) / d) * d = p at *
    generalize val (smallL d l).1 * d = q at *
    omega
theorem small_step {d r x : Int} (hd : 0 < d ∧ d < 4294967296) (hr : 0 ≤ r ∧ r < d) (hx : 0 ≤ x ∧ x < 4294967296) : 0 ≤ (r * 4294967296 + x) / d ∧ (r * 4294967296 + x) / d < 4294967296 := by
  refine ⟨Int.ediv_nonneg (by omega) (by omega), ?_⟩
  rw [Int.ediv_lt_iff_lt_mul hd.1]
  omega
theorem smallL_lim {d : Int} (hd : 0 < d ∧ d < 4294967296) : ∀ l, Lim l → Lim (smallL d l).1
  | [], _ => Lim.nil
  | _ :: l, h => Lim.cons (small_step hd (smallL_rest hd.1 l) h.head) (smallL_lim hd l h.tail)
theorem smallL_div {d : Int} (hd : 0 < d) {l : List Int} : val (smallL d l).1 = val l / d ∧ (smallL d l).2 = val l % d := by
  have h1 := smallL_val (d := d) l
  have h2 := smallL_rest hd l
  have h3 : val l / d = val (smallL d l).1 := by
    rw [h1, Int.add_comm, Int.add_mul_ediv_right _ _ (by omega), Int.ediv_eq_zero_of_lt h2.1 h2.2]; omega
  have h4 : val l % d = (smallL d l).2 := by
    rw [h1, Int.add_comm, Int.add_mul_emod_self_right, Int.emod_eq_of_lt h2.1 h2.2]
  exact ⟨h3.symm, h4.symm⟩

/-! ### which is greater -/
theorem val_lt_pow : ∀ {l : List Int}, Lim l → val l < 4294967296 ^ l.length
  | [], _ => by simp [val]
  | x :: l, h => by
    have := val_lt_pow h.tail
    have := h.head
    simp only [val, List.length_cons, Int.pow_succ]
    omega
theorem val_ge_pow : ∀ {l : List Int}, Lim l → Top l → l ≠ [] → (4294967296 : Int) ^ (l.length - 1) ≤ val l
  | [], _, _, h => absurd rfl h
  | [x], hl, ht, _ => by
    have := hl.head
    rw [Top.cons_iff] at ht
    have := ht.2 rfl
    simp [val]; omega
  | x :: y :: l, hl, ht, _ => by
    rw [Top.cons_iff] at ht
    have := val_ge_pow hl.tail ht.1 (by simp)
    have := hl.head
    have e : (4294967296 : Int) ^ ((x :: y :: l).length - 1) = 4294967296 ^ ((y :: l).length - 1) * 4294967296 := by simp only [List.length_cons, Nat.add_sub_cancel, Int.pow_succ]
    rw [val, e]
    omega
theorem val_lt_len {l m : List Int} (hl : Lim l) (hm : Lim m) (tm : Top m) (h : l.length < m.length) : val l < val m := by
  have h1 := val_lt_pow hl
  have h2 := val_ge_pow hm tm (by intro h0; subst h0; simp at h)
  have h3 : (4294967296 : Int) ^ l.length ≤ 4294967296 ^ (m.length - 1) := by
    have := pow_le (K := l.length) (L := m.length - 1) (by omega)
    have h4 := Int.ofNat_le.2 this
    rw [Int.natCast_pow, Int.natCast_pow] at h4
    exact h4
  omega
theorem val_split : ∀ (k : Nat) (l : List Int), val l = val (l.take k) + 4294967296 ^ (min k l.length) * val (l.drop k)
  | 0, l => by simp [val]
  | k + 1, [] => by simp [val]
  | k + 1, x :: l => by
    have := val_split k l
    simp only [List.take_succ_cons, List.drop_succ_cons, val, List.length_cons]
    rw [show min (k + 1) (l.length + 1) = min k l.length + 1 by omega, Int.pow_succ, this, Int.mul_add, Int.mul_assoc, Int.mul_left_comm]
    omega
theorem val_lt_at {l m : List Int} (hl : Lim l) (hm : Lim m) (he : l.length = m.length) {k : Nat} (hk : k < l.length) (hd : l.drop (k + 1) = m.drop (k + 1)) (h : l.getD k 0 < m.getD k 0) : val l < val m := by
  have h1 := val_split k l
  have h2 := val_split k m
  have dl : l.drop k = l.getD k 0 :: l.drop (k + 1) := by
    rw [List.drop_eq_getElem_cons hk]; congr 1
    rw [List.getD_eq_getElem?_getD, List.getElem?_eq_getElem hk]; rfl
  have dm : m.drop k = m.getD k 0 :: m.drop (k + 1) := by
    rw [List.drop_eq_getElem_cons (by omega)]; congr 1
    rw [List.getD_eq_getElem?_getD, List.getElem?_eq_getElem (by omega)]; rfl
  rw [dl] at h1; rw [dm, ← hd] at h2
  rw [show min k l.length = k by omega] at h1
  rw [show min k m.length = k by omega] at h2
  have h3 := val_lt_pow (hl.take k)
  have h4 := val_nonneg (hm.take k)
  rw [List.length_take, show min k l.length = k by omega] at h3
  have hv : val (l.getD k 0 :: l.drop (k + 1)) + 1 ≤ val (m.getD k 0 :: l.drop (k + 1)) := by simp only [val]; omega
  have hp : (0 : Int) < 4294967296 ^ k := Int.pow_pos (by decide)
  have := Int.mul_le_mul_of_nonneg_left hv (Int.le_of_lt hp)
  rw [Int.mul_add] at this
  omega
/-- Below nought, nought, above nought. -/
def sg (z : Int) : Int := if z < 0 then -1 else if 0 < z then 1 else 0
end Go.Abs

/- Dividing limbs by limbs: one step of it, in numbers; what is taken away and put back, limb by limb. -/
set_option linter.unusedVariables false
set_option linter.unusedSimpArgs false
set_option linter.unusedVariables false
namespace Go.Abs

/-! ### one guess -/
section
variable {V W P top next vr x u2 wr g : Int}
/-- V is (top*B+next)*P+vr, W is (x*B+u2)*P+wr. -/
structure Win (V W P top next vr x u2 wr : Int) : Prop where
  v : V = (top * 4294967296 + next) * P + vr
  w : W = (x * 4294967296 + u2) * P + wr
  p : 0 < P
  vr : 0 ≤ vr ∧ vr < P
  wr : 0 ≤ wr ∧ wr < P
  top : 2147483648 ≤ top ∧ top < 4294967296
  next : 0 ≤ next ∧ next < 4294967296
  u2 : 0 ≤ u2 ∧ u2 < 4294967296
  x : 0 ≤ x
  lt : W < 4294967296 * V

variable (h : Win V W P top next vr x u2 wr)
include h

theorem Win.x_lt : x < (top + 1) * 4294967296 := by
  have h1 := h.v; have h2 := h.w; have h3 := h.vr; have h4 := h.wr; have h5 := h.lt; have hp := h.p; have hu := h.u2; have hn := h.next
  have k1 : 0 ≤ u2 * P := Int.mul_nonneg hu.1 (Int.le_of_lt hp)
  have k2 : next * P ≤ 4294967295 * P := Int.mul_le_mul_of_nonneg_right (by omega) (Int.le_of_lt hp)
  have k3 : x * P < ((top + 1) * 4294967296) * P := by
    simp only [Int.add_mul, Int.mul_assoc, Int.mul_left_comm _ (4294967296 : Int)] at *
    generalize top * P = a at *
    generalize next * P = b at *
    generalize x * P = c at *
    generalize u2 * P = d at *
    omega
  exact Int.lt_of_mul_lt_mul_right k3 (Int.le_of_lt hp)

/-- The guess from the two uppermost limbs is not too small. -/
theorem Win.first (hg : x < (g + 1) * top) (h0 : 0 ≤ g) : W < (g + 1) * V := by
  have h1 := h.v; have h2 := h.w; have h3 := h.vr; have h4 := h.wr; have hp := h.p; have hu := h.u2; have hn := h.next
  have k1 : (x + 1) * P ≤ ((g + 1) * top) * P := Int.mul_le_mul_of_nonneg_right hg (Int.le_of_lt hp)
  have k2 : u2 * P ≤ 4294967295 * P := Int.mul_le_mul_of_nonneg_right (by omega) (Int.le_of_lt hp)
  have k3 : 0 ≤ (g + 1) * (next * P) := Int.mul_nonneg (by omega) (Int.mul_nonneg hn.1 (Int.le_of_lt hp))
  have k4 : 0 ≤ (g + 1) * vr := Int.mul_nonneg (by omega) h3.1
  have e : (g + 1) * V = 4294967296 * (((g + 1) * top) * P) + (g + 1) * (next * P) + (g + 1) * vr := by
    rw [h1]; simp only [Int.add_mul, Int.mul_add, Int.mul_assoc, Int.mul_left_comm _ (4294967296 : Int)]
  rw [e, h2]
  simp only [Int.add_mul, Int.mul_assoc, Int.mul_left_comm _ (4294967296 : Int)] at *
  generalize x * P = c at *
  generalize u2 * P = d at *
  omega

/-- A guess that the third limb tells is too great. -/
theorem Win.less (hg : x * 4294967296 + u2 < g * (top * 4294967296 + next)) (h0 : 0 ≤ g) : W < g * V := by
  have h1 := h.v; have h2 := h.w; have h3 := h.vr; have h4 := h.wr; have hp := h.p
  have k1 : (x * 4294967296 + u2 + 1) * P ≤ (g * (top * 4294967296 + next)) * P := Int.mul_le_mul_of_nonneg_right hg (Int.le_of_lt hp)
  have k4 : 0 ≤ g * vr := Int.mul_nonneg h0 h3.1
  have e : g * V = (g * (top * 4294967296 + next)) * P + g * vr := by rw [h1, Int.mul_add, Int.mul_assoc]
  rw [e, h2]
  rw [Int.add_mul _ 1] at k1
  omega

/-- What the third limb lets by is one too great at most. -/
theorem Win.near (hg : g * (top * 4294967296 + next) ≤ x * 4294967296 + u2) (hb : g < 4294967296) : g * V ≤ W + V := by
  have h1 := h.v; have h2 := h.w; have h3 := h.vr; have h4 := h.wr; have hp := h.p; have ht := h.top; have hn := h.next
  have k1 : (g * (top * 4294967296 + next)) * P ≤ (x * 4294967296 + u2) * P := Int.mul_le_mul_of_nonneg_right hg (Int.le_of_lt hp)
  have k2 : g * vr ≤ 4294967296 * P := Int.mul_le_mul (by omega) (by omega) h3.1 (by omega)
  have k3 : 4294967296 * P ≤ (top * 4294967296 + next) * P := Int.mul_le_mul_of_nonneg_right (by omega) (Int.le_of_lt hp)
  have e : g * V = (g * (top * 4294967296 + next)) * P + g * vr := by rw [h1, Int.mul_add, Int.mul_assoc]
  rw [e]
  omega

/-- Where the rest is a limb or more the guess is not too great. -/
theorem Win.done (hg : g * top + 4294967296 ≤ x) (h0 : 0 ≤ g) (hb : g ≤ 4294967296) : g * V ≤ W := by
  have h1 := h.v; have h2 := h.w; have h3 := h.vr; have h4 := h.wr; have hp := h.p; have ht := h.top; have hn := h.next; have hu := h.u2
  have k1 : (g * top + 4294967296) * P ≤ x * P := Int.mul_le_mul_of_nonneg_right hg (Int.le_of_lt hp)
  have k0 : 0 ≤ u2 * P := Int.mul_nonneg hu.1 (Int.le_of_lt hp)
  have k5 : next * P ≤ 4294967295 * P := Int.mul_le_mul_of_nonneg_right (by omega) (Int.le_of_lt hp)
  have k6 : 0 ≤ next * P := Int.mul_nonneg hn.1 (Int.le_of_lt hp)
  have k2 : g * (next * P + vr) ≤ 4294967296 * (4294967296 * P) := Int.mul_le_mul (by omega) (by omega) (by omega) (by omega)
  have e : g * V = 4294967296 * ((g * top) * P) + g * (next * P + vr) := by
    rw [h1]; simp only [Int.add_mul, Int.mul_add, Int.mul_assoc, Int.mul_left_comm _ (4294967296 : Int)]; omega
  rw [e, h2]
  simp only [Int.add_mul, Int.mul_assoc, Int.mul_left_comm _ (4294967296 : Int)] at *
  generalize x * P = c at *
  generalize u2 * P = d at *
  generalize g * (top * P) = f at *
  omega
end

/-! ### taking away, putting back -/
def takeL (n : Int) : List Int → List Int → Int → List Int × Int
  | [], _, c => ([], c)
  | x :: u, v, c => ((x - (c + v.headD 0 * n) % 4294967296) % 4294967296 :: (takeL n u v.tail ((c + v.headD 0 * n) / 4294967296 + if x < (c + v.headD 0 * n) % 4294967296 then 1 else 0)).1,
      (takeL n u v.tail ((c + v.headD 0 * n) / 4294967296 + if x < (c + v.headD 0 * n) % 4294967296 then 1 else 0)).2)
theorem takeL_len (n : Int) : ∀ (u v : List Int) (c : Int), (takeL n u v c).1.length = u.length
  | [], _, _ => rfl
  | x :: u, v, c => by simp [takeL, takeL_len n u]
theorem takeL_lim (n : Int) : ∀ (u v : List Int) (c : Int), Lim (takeL n u v c).1
  | [], _, _ => Lim.nil
  | x :: u, v, c => Lim.cons (by omega) (takeL_lim n u _ _)
theorem takeL_val (n : Int) : ∀ (u v : List Int) (c : Int), Lim u → v.length ≤ u.length → val (takeL n u v c).1 = val u - val v * n - c + (takeL n u v c).2 * 4294967296 ^ u.length
  | [], v, c, _, h => by
    have : v = [] := List.length_eq_zero_iff.1 (by simpa using h)
    subst this; simp [takeL, val]; omega
  | x :: u, v, c, hu, h => by
    have ih := takeL_val n u v.tail ((c + v.headD 0 * n) / 4294967296 + if x < (c + v.headD 0 * n) % 4294967296 then 1 else 0) hu.tail (by simp at h ⊢; omega)
    have hx := hu.head
    rw [val_tail (b := v)]
    simp only [takeL, val, List.length_cons, Int.pow_succ, ih, Int.add_mul, Int.mul_assoc]
    generalize v.headD 0 * n = p at *
    generalize val v.tail * n = q at *
    generalize (takeL n u v.tail ((c + p) / 4294967296 + if x < (c + p) % 4294967296 then 1 else 0)).2 = k at *
    rw [← Int.mul_assoc k, Int.mul_comm _ (4294967296 : Int)]
    generalize k * 4294967296 ^ u.length = r at *
    split <;> omega
theorem takeL_carry {n : Int} (hn : 0 ≤ n ∧ n < 4294967296) : ∀ (u v : List Int) (c : Int), Lim v → 0 ≤ c ∧ c ≤ 4294967296 → 0 ≤ (takeL n u v c).2 ∧ (takeL n u v c).2 ≤ 4294967296
  | [], v, c, _, hc => hc
  | x :: u, v, c, hv, hc => by
    have h := hv.headD
    have h1 := mul_bound h hn
    simp only [takeL]
    refine takeL_carry hn u v.tail _ hv.tl ?_
    generalize v.headD 0 * n = p at *
    split <;> omega
theorem take_step {n c y : Int} (hn : 0 ≤ n ∧ n < 4294967296) (hc : 0 ≤ c ∧ c ≤ 4294967296) (hy : 0 ≤ y ∧ y < 4294967296) : 0 ≤ y * n ∧ 0 ≤ c + y * n ∧ c + y * n < 18446744073709551616 ∧ 0 ≤ (c + y * n) / 4294967296 ∧ (c + y * n) / 4294967296 < 4294967296 := by
  have := mul_bound hy hn
  omega

def giveL : List Int → List Int → Int → List Int × Int
  | [], _, c => ([], c)
  | x :: u, v, c => ((c + x + v.headD 0) % 4294967296 :: (giveL u v.tail ((c + x + v.headD 0) / 4294967296)).1, (giveL u v.tail ((c + x + v.headD 0) / 4294967296)).2)
theorem giveL_len : ∀ (u v : List Int) (c : Int), (giveL u v c).1.length = u.length
  | [], _, _ => rfl
  | x :: u, v, c => by simp [giveL, giveL_len u]
theorem giveL_lim : ∀ (u v : List Int) (c : Int), Lim (giveL u v c).1
  | [], _, _ => Lim.nil
  | x :: u, v, c => Lim.cons (by omega) (giveL_lim u _ _)
theorem giveL_val : ∀ (u v : List Int) (c : Int), v.length ≤ u.length → val (giveL u v c).1 + (giveL u v c).2 * 4294967296 ^ u.length = val u + val v + c
  | [], v, c, h => by
    have : v = [] := List.length_eq_zero_iff.1 (by simpa using h)
    subst this; simp [giveL, val]
  | x :: u, v, c, h => by
    have ih := giveL_val u v.tail ((c + x + v.headD 0) / 4294967296) (by simp at h ⊢; omega)
    rw [val_tail (b := v)]
    simp only [giveL, val, List.length_cons, Int.pow_succ]
    generalize (giveL u v.tail ((c + x + v.headD 0) / 4294967296)).2 = k at *
    rw [← Int.mul_assoc k, Int.mul_comm _ (4294967296 : Int)]
    generalize k * 4294967296 ^ u.length = r at *
    omega

/-- What is left behind a step, from a guess that is right or one too great. -/
theorem take_right {g q V W M : Int} {o c : Int} (hVM : V ≤ M) (hq : q * V ≤ W ∧ W < (q + 1) * V) (hW : W < M) (he : o = W - V * g - 0 + c * M) (ho : 0 ≤ o ∧ o < M) (h : g = q) : c = 0 ∧ o = W - q * V := by
  subst h
  have e : V * g = g * V := Int.mul_comm _ _
  rw [e] at he
  rw [Int.add_mul, Int.one_mul] at hq
  generalize g * V = p at *
  have hc : c = 0 := by
    by_cases h1 : c ≥ 1
    · have := Int.mul_le_mul_of_nonneg_right h1 (show 0 ≤ M by omega)
      omega
    · by_cases h2 : c ≤ -1
      · have := Int.mul_le_mul_of_nonneg_right h2 (show 0 ≤ M by omega)
        omega
      · omega
  subst hc
  omega
theorem take_wrong {g q V W M : Int} {o c o2 c2 : Int} (hVM : V ≤ M) (hq : q * V ≤ W ∧ W < (q + 1) * V) (he : o = W - V * g - 0 + c * M) (ho : 0 ≤ o ∧ o < M) (h : g = q + 1) (hg : o2 + c2 * M = o + V + 0) (ho2 : 0 ≤ o2 ∧ o2 < M) : c ≠ 0 ∧ o2 = W - q * V := by
  subst h
  rw [Int.mul_add, Int.mul_one, Int.mul_comm V q] at he
  rw [Int.add_mul, Int.one_mul] at hq
  generalize q * V = p at *
  have hc : c = 1 := by
    by_cases h1 : c ≥ 2
    · have := Int.mul_le_mul_of_nonneg_right h1 (show 0 ≤ M by omega)
      omega
    · by_cases h2 : c ≤ 0
      · have := Int.mul_le_mul_of_nonneg_right h2 (show 0 ≤ M by omega)
        omega
      · omega
  subst hc
  refine ⟨by decide, ?_⟩
  have hc2 : c2 = 1 := by
    by_cases h1 : c2 ≥ 2
    · have := Int.mul_le_mul_of_nonneg_right h1 (show 0 ≤ M by omega)
      omega
    · by_cases h2 : c2 ≤ 0
      · have := Int.mul_le_mul_of_nonneg_right h2 (show 0 ≤ M by omega)
        omega
      · omega
  subst hc2
  omega
end Go.Abs

/- Decimal digits. -/
set_option linter.unusedVariables false
set_option linter.unusedSimpArgs false
set_option linter.unusedVariables false
namespace Go.Abs

/-- Digits, the lowest first, as bytes. -/
def decL (n : Nat) : List Int := if n = 0 then [] else (((n % 10 : Nat) : Int) + 48) :: decL (n / 10)
  termination_by n
  decreasing_by omega
theorem decL_zero : decL 0 = [] := by rw [decL, if_pos rfl]
theorem decL_pos {n : Nat} (h : n ≠ 0) : decL n = (((n % 10 : Nat) : Int) + 48) :: decL (n / 10) := by rw [decL, if_neg h]
theorem decL_nil {n : Nat} : decL n = [] ↔ n = 0 := by
  constructor
  · intro h
    by_cases h0 : n = 0
    · exact h0
    · rw [decL_pos h0] at h; cases h
  · rintro rfl; exact decL_zero
def isDig (x : Int) : Prop := 48 ≤ x ∧ x ≤ 57
theorem decL_dig (n : Nat) : ∀ x ∈ decL n, isDig x := by
  induction n using Nat.strongRecOn with
  | ind n ih =>
    by_cases h : n = 0
    · subst h; rw [decL_zero]; intro x hx; cases hx
    · rw [decL_pos h]
      intro x hx
      rcases List.mem_cons.1 hx with rfl | hx
      · unfold isDig; omega
      · exact ih _ (by omega) x hx
/-- The uppermost digit is none of nought. -/
theorem decL_top (n : Nat) : n = 0 ∨ (decL n).getD ((decL n).length - 1) 0 ≠ 48 := by
  induction n using Nat.strongRecOn with
  | ind n ih =>
    by_cases h : n = 0
    · exact .inl h
    · right
      rw [decL_pos h]
      by_cases h1 : n / 10 = 0
      · rw [h1, decL_zero]; simp; omega
      · have h2 : decL (n / 10) ≠ [] := by rw [Ne, decL_nil]; exact h1
        have h3 : 0 < (decL (n / 10)).length := List.length_pos_iff.2 h2
        obtain ⟨k, hk⟩ : ∃ k, (decL (n / 10)).length = k + 1 := ⟨_, (Nat.succ_pred_eq_of_pos h3).symm⟩
        rcases ih (n / 10) (by omega) with h4 | h4
        · exact absurd h4 h1
        · rw [hk] at h4
          simp only [List.length_cons, hk, Nat.add_sub_cancel, List.getD_cons_succ] at h4 ⊢
          exact h4

/-- So many digits. -/
def decP : Nat → Nat → List Int
  | 0, _ => []
  | k + 1, n => (((n % 10 : Nat) : Int) + 48) :: decP k (n / 10)
theorem decP_len : ∀ (k n : Nat), (decP k n).length = k
  | 0, _ => rfl
  | k + 1, n => by simp [decP, decP_len k]
theorem decP_succ : ∀ (k n : Nat), decP (k + 1) n = decP k n ++ [((n / 10 ^ k % 10 : Nat) : Int) + 48]
  | 0, n => by simp [decP]
  | k + 1, n => by
    rw [decP, decP_succ k (n / 10), decP, List.cons_append, Nat.div_div_eq_div_mul, Nat.pow_succ, Nat.mul_comm (10 ^ k)]
theorem decP_add : ∀ (j k n : Nat), decP (j + k) n = decP j n ++ decP k (n / 10 ^ j)
  | 0, k, n => by simp [decP]
  | j + 1, k, n => by
    rw [Nat.add_right_comm, decP, decP_add j k (n / 10), decP, List.cons_append, Nat.div_div_eq_div_mul, Nat.pow_succ, Nat.mul_comm (10 ^ j)]
theorem decP_mod : ∀ (k n m : Nat), n % 10 ^ k = m % 10 ^ k → decP k n = decP k m
  | 0, _, _, _ => rfl
  | k + 1, n, m, h => by
    have h1 : n % 10 = m % 10 := by
      have := congrArg (· % 10) h
      simp only [Nat.pow_succ] at this
      rwa [Nat.mod_mod_of_dvd _ (Nat.dvd_mul_left _ _), Nat.mod_mod_of_dvd _ (Nat.dvd_mul_left _ _)] at this
    have h2 : n / 10 % 10 ^ k = m / 10 % 10 ^ k := by
      have := congrArg (· / 10) h
      simp only [Nat.pow_succ, Nat.mul_comm _ 10] at this
      rwa [Nat.mod_mul_right_div_self, Nat.mod_mul_right_div_self] at this
    simp only [decP, h1, decP_mod k _ _ h2]
/-- The digits, and noughts on top. -/
theorem decP_decL : ∀ (k n : Nat), n < 10 ^ k → decP k n = decL n ++ List.replicate (k - (decL n).length) 48 ∧ (decL n).length ≤ k
  | 0, n, h => by
    have : n = 0 := by simpa using h
    subst this; simp [decP, decL_zero]
  | k + 1, n, h => by
    by_cases h0 : n = 0
    · subst h0
      obtain ⟨h1, _⟩ := decP_decL k 0 (Nat.pow_pos (by decide))
      rw [decL_zero] at h1 ⊢
      simp [decP, h1, List.replicate_succ]
    · obtain ⟨h1, h2⟩ := decP_decL k (n / 10) (by rw [Nat.pow_succ] at h; omega)
      rw [decP, h1, decL_pos h0]
      simp only [List.length_cons, List.cons_append]
      rw [show k + 1 - ((decL (n / 10)).length + 1) = k - (decL (n / 10)).length by omega]
      exact ⟨rfl, by omega⟩

/-- A number's text, as bytes. -/
def txt (z : Int) : List Int := if z = 0 then [48] else if z < 0 then 45 :: (decL z.natAbs).reverse else (decL z.natAbs).reverse

/-- What digits come to, the uppermost first. -/
def rdL (l : List Int) (a : Nat) : Nat := l.foldl (fun a x => a * 10 + (x - 48).toNat) a
theorem rdL_nil (a : Nat) : rdL [] a = a := rfl
theorem rdL_cons (x : Int) (l : List Int) (a : Nat) : rdL (x :: l) a = rdL l (a * 10 + (x - 48).toNat) := rfl
theorem rdL_snoc (l : List Int) (x : Int) (a : Nat) : rdL (l ++ [x]) a = rdL l a * 10 + (x - 48).toNat := by simp [rdL]
theorem rdL_decL (n : Nat) : rdL (decL n).reverse 0 = n := by
  induction n using Nat.strongRecOn with
  | ind n ih =>
    by_cases h : n = 0
    · subst h; rw [decL_zero]; rfl
    · rw [decL_pos h, List.reverse_cons, rdL_snoc, ih _ (by omega)]
      omega
/-- Digits whose uppermost is none of nought are those of what they come to. -/
theorem decL_rdL : ∀ (n : Nat) (l : List Int), l.length = n → (∀ x ∈ l, isDig x) → (l = [] ∨ l.headD 0 ≠ 48) → (decL (rdL l 0)).reverse = l := by
  intro n
  induction n with
  | zero =>
    intro l h _ _
    have : l = [] := List.length_eq_zero_iff.1 h
    subst this
    rw [rdL_nil, decL_zero]; rfl
  | succ n ih =>
    intro l h hd h0
    have hne : l ≠ [] := by intro e; subst e; simp at h
    obtain ⟨m, x, rfl⟩ : ∃ m x, l = m ++ [x] := ⟨l.dropLast, l.getLast hne, (List.dropLast_concat_getLast hne).symm⟩
    have hx : isDig x := hd x (by simp)
    have hm := ih m (by simpa using h) (fun y hy => hd y (by simp [hy])) (by
      by_cases e : m = []
      · exact .inl e
      · right
        rcases h0 with h0 | h0
        · simp at h0
        · cases m with
          | nil => exact absurd rfl e
          | cons y m => simpa using h0)
    rw [rdL_snoc]
    unfold isDig at hx
    have hpos : rdL m 0 * 10 + (x - 48).toNat ≠ 0 := by
      by_cases e : m = []
      · subst e
        rcases h0 with h0 | h0
        · simp at h0
        · simp at h0; rw [rdL_nil]; omega
      · intro e2
        have : rdL m 0 = 0 := by omega
        rw [this, decL_zero] at hm
        exact e hm.symm
    rw [decL_pos hpos, List.reverse_cons, show (rdL m 0 * 10 + (x - 48).toNat) / 10 = rdL m 0 by omega, hm]
    congr 2
    omega
end Go.Abs

/- A product in place, place by place. -/
set_option linter.unusedVariables false
set_option linter.unusedSimpArgs false
set_option linter.unusedVariables false
namespace Go.Abs

theorem drop_getD {a : List Int} {k : Nat} (h : k < a.length) : a.drop k = a.getD k 0 :: a.drop (k + 1) := by
  rw [List.drop_eq_getElem_cons h]; congr 1
  rw [List.getD_eq_getElem?_getD, List.getElem?_eq_getElem h]; rfl
theorem headD_drop {b : List Int} {k : Nat} : (b.drop k).headD 0 = b.getD k 0 := by
  rw [List.getD_eq_getElem?_getD, ← List.head?_drop]
  cases b.drop k <;> rfl
theorem tail_drop {b : List Int} {k : Nat} : (b.drop k).tail = b.drop (k + 1) := by rw [List.tail_drop]
theorem getD_none {b : List Int} {k : Nat} (h : b.length ≤ k) : b.getD k 0 = 0 := by
  rw [List.getD_eq_getElem?_getD, List.getElem?_eq_none h]; rfl
theorem take_set {α : Type} {o : List α} {j : Nat} {v : α} (h : j < o.length) : (o.set j v).take (j + 1) = o.take j ++ [v] := by
  rw [List.take_add_one, List.getElem?_set_self h, List.take_set_of_le (Nat.le_refl _)]; rfl
theorem drop_set {α : Type} {o : List α} {j : Nat} {v : α} : (o.set j v).drop (j + 1) = o.drop (j + 1) := by
  rw [List.drop_set_of_lt (Nat.lt_succ_self _)]

structure RowInv (u : Int) (y o0 o : List Int) (i k : Nat) (c : Int) : Prop where
  len : o.length = o0.length
  lim : Lim o
  cb : 0 ≤ c ∧ c < 4294967296
  eq : o.take (i + k) ++ rowL u (y.drop k) (o.drop (i + k)) c = o0.take i ++ rowL u y (o0.drop i) 0
theorem RowInv.init {u : Int} {y o0 : List Int} {i : Nat} (h : Lim o0) : RowInv u y o0 o0 i 0 0 := ⟨rfl, h, by omega, rfl⟩
theorem RowInv.step {u : Int} {y o0 o : List Int} {i k : Nat} {c : Int} (h : RowInv u y o0 o i k c) (hu : 0 ≤ u ∧ u < 4294967296) (hy : Lim y) (hk : k < y.length) (hi : i + y.length < o0.length) :
    RowInv u y o0 (o.set (i + k) ((c + (u * y.getD k 0 + o.getD (i + k) 0)) % 4294967296)) i (k + 1) ((c + (u * y.getD k 0 + o.getD (i + k) 0)) / 4294967296) := by
  have hs := rowL_step hu (hy.getD k) (h.lim.getD (i + k)) h.cb
  have hl := h.len
  refine ⟨by rw [List.length_set]; exact hl, h.lim.set _ (by omega), hs.2.2, ?_⟩
  rw [← h.eq, show i + (k + 1) = i + k + 1 by omega, take_set (by omega), drop_set, drop_getD (a := o) (k := i + k) (by omega), drop_getD (a := y) hk, rowL, List.append_assoc]
  rfl
theorem RowInv.done {u : Int} {y o0 o : List Int} {i : Nat} {c : Int} (h : RowInv u y o0 o i y.length c) (hi : i + y.length < o0.length) : o.set (i + y.length) c = o0.take i ++ rowL u y (o0.drop i) 0 := by
  have hl := h.len
  have e := h.eq
  rw [List.drop_length, drop_getD (a := o) (k := i + y.length) (by omega), rowL] at e
  rw [← e, List.set_eq_take_append_cons_drop, if_pos (by omega)]

structure MulInv (x y o : List Int) (i : Nat) : Prop where
  len : o.length = x.length + y.length
  lim : Lim o
  eq : o.take i ++ mulL (x.drop i) y (o.drop i) = mulL x y (List.replicate (x.length + y.length) 0)
theorem MulInv.init {x y : List Int} : MulInv x y (List.replicate (x.length + y.length) 0) 0 :=
  ⟨by simp, fun z hz => by rw [List.eq_of_mem_replicate hz]; omega, rfl⟩
theorem MulInv.step {x y o : List Int} {i : Nat} (h : MulInv x y o i) (hx : Lim x) (hy : Lim y) (hi : i < x.length) : MulInv x y (o.take i ++ rowL (x.getD i 0) y (o.drop i) 0) (i + 1) := by
  have hl := h.len
  have h1 := rowL_len (x.getD i 0) y (o.drop i) 0 (by rw [List.length_drop]; omega)
  have h2 := rowL_lim (hx.getD i) y (o.drop i) 0 hy (h.lim.drop i) (by omega)
  have e := h.eq
  rw [drop_getD hi, mulL] at e
  rw [List.length_drop] at h1
  have ht : (o.take i).length = i := by rw [List.length_take]; omega
  refine ⟨by rw [List.length_append, h1, ht]; omega, (h.lim.take i).append h2, ?_⟩
  revert h1 e
  cases hr : rowL (x.getD i 0) y (o.drop i) 0 with
  | nil => intro h1; simp at h1; omega
  | cons z r =>
    intro h1 e
    simp only at e
    rw [← e]
    have a1 : (o.take i ++ z :: r).take (i + 1) = o.take i ++ [z] := by
      rw [List.take_append, ht, List.take_of_length_le (by omega), show i + 1 - i = 1 by omega]; rfl
    have a2 : (o.take i ++ z :: r).drop (i + 1) = r := by
      rw [List.drop_append, ht, List.drop_of_length_le (by omega), show i + 1 - i = 1 by omega]; rfl
    rw [a1, a2, List.append_assoc]; rfl
theorem MulInv.done {x y o : List Int} (h : MulInv x y o x.length) (hx : Lim x) (hy : Lim y) : val o = val x * val y := by
  have e := h.eq
  rw [List.drop_length, mulL, List.take_append_drop] at e
  rw [e, (mulL_val hx hy).1]
theorem mul_sign (y z : Int) : (if (decide (y < 0) != decide (z < 0)) = true then -((y.natAbs : Int) * z.natAbs) else (y.natAbs : Int) * z.natAbs) = y * z := by
  by_cases b0 : y < 0 <;> by_cases b1 : z < 0
  · rw [if_neg (by simp [b0, b1]), show (y.natAbs : Int) = -y by omega, show (z.natAbs : Int) = -z by omega, Int.neg_mul_neg]
  · rw [if_pos (by simp [b0, b1]), show (y.natAbs : Int) = -y by omega, show (z.natAbs : Int) = z by omega, Int.neg_mul, Int.neg_neg]
  · rw [if_pos (by simp [b0, b1]), show (y.natAbs : Int) = y by omega, show (z.natAbs : Int) = -z by omega, Int.mul_neg, Int.neg_neg]
  · rw [if_neg (by simp [b0, b1]), show (y.natAbs : Int) = y by omega, show (z.natAbs : Int) = z by omega]

theorem val_append (a b : List Int) : val (a ++ b) = val a + 4294967296 ^ a.length * val b := by
  induction a with
  | nil => simp [val]
  | cons x a ih =>
    simp only [List.cons_append, val, List.length_cons, Int.pow_succ]
    rw [ih, Int.mul_add, Int.mul_comm (4294967296 ^ a.length) 4294967296, Int.mul_assoc]
    omega
theorem val_one (x : Int) : val [x] = x := by simp [val]
theorem val_drop_succ {a : List Int} {k : Nat} : val (a.drop k) = a.getD k 0 + 4294967296 * val (a.drop (k + 1)) := by
  rw [val_tail (b := a.drop k), headD_drop, tail_drop]
theorem add_step {o a b : List Int} {k : Nat} {c : Int} (hol : o.length = k) (he : val o + 4294967296 ^ k * (c + val (a.drop k) + val (b.drop k)) = val a + val b) :
    val (o ++ [(c + a.getD k 0 + b.getD k 0) % 4294967296]) + 4294967296 ^ (k + 1) * ((c + a.getD k 0 + b.getD k 0) / 4294967296 + val (a.drop (k + 1)) + val (b.drop (k + 1))) = val a + val b := by
  rw [← he, val_append, val_one, hol, val_drop_succ (a := a) (k := k), val_drop_succ (a := b) (k := k), Int.pow_succ, Int.mul_assoc, Int.add_assoc, ← Int.mul_add]
  congr 2
  omega
end Go.Abs
