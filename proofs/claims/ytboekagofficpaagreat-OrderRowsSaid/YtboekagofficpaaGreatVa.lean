/- Joined: V1, V2. -/
import Derived.Test.YtboekagofficpaaGreatQc
/- Quotients, plainly: what four parts tell, their least form, how many limbs. -/
set_option linter.unusedVariables false
set_option linter.unusedSimpArgs false
namespace Go.Abs
open Go Go.Proofs
set_option maxRecDepth 100000

/-! ### what four parts tell -/
/-- The zero value. -/
def zeroQ (pn : Bool) (pl : List Int) (qn : Bool) (ql : List Int) : Bool := !pn && decide (pl.length = 0) && !qn && decide (ql.length = 0)
def mayQ (pn : Bool) (pl : List Int) (qn : Bool) (ql : List Int) : Bool :=
  zeroQ pn pl qn ql || (mayB pn pl && mayB qn ql && !qn && decide (den qn ql ≠ 0) && decide (Int.gcd (den pn pl) (den qn ql) = 1))
def dq (pn : Bool) (pl : List Int) (qn : Bool) (ql : List Int) : Rat := if mayQ pn pl qn ql = true then Rat.divInt (den pn pl) (den qn ql) else 0
/-- How many limbs. -/
def lq (x : Rat) : Nat := max (ln x.num) (ln x.den)
/-- Which of two is greater. -/
def cq (x y : Rat) : Int := sg (x.num * y.den - y.num * x.den)

/-! ### least forms -/
theorem least_of {A B : Int} (hB : 0 < B) (hg : Int.gcd A B = 1) : (Rat.divInt A B).num = A ∧ ((Rat.divInt A B).den : Int) = B := by
  rw [Rat.num_divInt, Rat.den_divInt, Int.gcd_comm, hg, if_neg (by omega), Int.sign_eq_one_of_pos hB]
  simp; omega
theorem gcd_pos' {A B : Int} (hB : B ≠ 0) : 0 < (Int.gcd A B : Int) := by
  have h : Int.gcd A B ≠ 0 := fun h => hB (Int.gcd_eq_zero_iff.1 h).2
  omega
theorem num_pos {A B : Int} (hB : 0 < B) : (Rat.divInt A B).num = A.tdiv (Int.gcd A B) := by
  rw [Rat.num_divInt, Int.gcd_comm, Int.sign_eq_one_of_pos hB, Int.one_mul, Int.tdiv_eq_ediv_of_dvd (Int.gcd_dvd_left A B)]
theorem num_neg {A B : Int} (hB : B < 0) : (Rat.divInt A B).num = A.tdiv (-(Int.gcd A B)) := by
  rw [Rat.num_divInt, Int.gcd_comm, Int.sign_eq_neg_one_of_neg hB, Int.tdiv_neg, Int.tdiv_eq_ediv_of_dvd (Int.gcd_dvd_left A B), Int.neg_mul, Int.one_mul, Int.neg_ediv_of_dvd (Int.gcd_dvd_left A B)]
theorem den_pos {A B : Int} (hB : 0 < B) : ((Rat.divInt A B).den : Int) = B.tdiv (Int.gcd A B) := by
  rw [Rat.den_divInt, if_neg (by omega), Int.gcd_comm, Int.tdiv_eq_ediv_of_dvd (Int.gcd_dvd_right A B), Int.natCast_ediv]
  congr 1; omega
theorem den_neg {A B : Int} (hB : B < 0) : ((Rat.divInt A B).den : Int) = B.tdiv (-(Int.gcd A B)) := by
  rw [Rat.den_divInt, if_neg (by omega), Int.gcd_comm, Int.tdiv_neg, Int.tdiv_eq_ediv_of_dvd (Int.gcd_dvd_right A B), Int.natCast_ediv, ← Int.neg_ediv_of_dvd (Int.gcd_dvd_right A B)]
  congr 1; omega

/-! ### parts -/
variable {pn qn : Bool} {pl ql : List Int}
theorem dpos (x : Rat) : 0 < (x.den : Int) := by have := x.den_nz; omega
theorem sgn_d (x : Rat) : sgn (x.den : Int) = false := by unfold sgn; simp
theorem zeroQ_den (h : zeroQ pn pl qn ql = true) : den pn pl = 0 := by
  simp only [zeroQ, Bool.and_eq_true, Bool.not_eq_true', decide_eq_true_eq] at h
  rw [List.length_eq_zero_iff.1 h.1.1.2, den_nil]
theorem dq_zero (h : zeroQ pn pl qn ql = true) : dq pn pl qn ql = 0 := by
  unfold dq; split
  · rw [zeroQ_den h, Rat.zero_divInt]
  · rfl
theorem dq_not (h : mayQ pn pl qn ql = false) : dq pn pl qn ql = 0 := by unfold dq; rw [if_neg (by rw [h]; decide)]
theorem mayQ_parts (h : mayQ pn pl qn ql = true) (h0 : zeroQ pn pl qn ql = false) : mayB pn pl = true ∧ mayB qn ql = true ∧ qn = false ∧ den qn ql ≠ 0 ∧ Int.gcd (den pn pl) (den qn ql) = 1 := by
  unfold mayQ at h
  rw [h0, Bool.false_or] at h
  simpa [and_assoc] using h
theorem den_pos_of (hl : Lim ql) (hq : qn = false) (h0 : den qn ql ≠ 0) : 0 < den qn ql := by
  have := val_nonneg hl
  unfold den at h0 ⊢
  subst hq
  split
  · rename_i h
    rw [if_pos h] at h0
    simp at h0 ⊢; omega
  · rename_i h
    rw [if_neg h] at h0
    omega
theorem dq_parts (hl : Lim ql) (h : mayQ pn pl qn ql = true) (h0 : zeroQ pn pl qn ql = false) : (dq pn pl qn ql).num = den pn pl ∧ ((dq pn pl qn ql).den : Int) = den qn ql := by
  obtain ⟨h1, h2, h3, h4, h5⟩ := mayQ_parts h h0
  have h6 := den_pos_of hl h3 h4
  unfold dq
  rw [if_pos h]
  exact least_of h6 h5
theorem gcd_rat (x : Rat) : Int.gcd x.num (x.den : Int) = 1 := by
  have := x.reduced
  unfold Nat.Coprime at this
  unfold Int.gcd
  simpa using this
theorem mayQ_q (x : Rat) : mayQ (sgn x.num) (lmb x.num) (sgn x.den) (lmb x.den) = true := by
  unfold mayQ
  rw [may_z, may_z, den_z, den_z, gcd_rat, sgn_d]
  simp [x.den_nz]
theorem dq_q (x : Rat) : dq (sgn x.num) (lmb x.num) (sgn x.den) (lmb x.den) = x := by
  unfold dq
  rw [if_pos (mayQ_q x), den_z, den_z, Rat.num_divInt_den]
theorem dq_nought : dq false [] false [] = 0 := dq_zero rfl
theorem zeroQ_q (x : Rat) : zeroQ (sgn x.num) (lmb x.num) (sgn x.den) (lmb x.den) = false := by
  have := dpos x
  have h : ln (x.den : Int) ≠ 0 := fun h => by rw [ln_eq_zero] at h; omega
  unfold zeroQ
  rw [len_z, len_z]
  simp [h]

/-! ### sums, products -/
theorem add_least (x y : Rat) : Rat.divInt (x.num * y.den + y.num * x.den) ((x.den : Int) * y.den) = x + y := by
  rw [Rat.add_def', ← Int.natCast_mul, Rat.divInt_ofNat]
theorem mul_least (x y : Rat) : Rat.divInt (x.num * y.num) ((x.den : Int) * y.den) = x * y := by
  rw [Rat.mul_def', ← Int.natCast_mul, Rat.divInt_ofNat]
theorem div_least (x y : Rat) : Rat.divInt (x.num * y.den) ((x.den : Int) * y.num) = x / y := by
  rw [Rat.div_def, Rat.inv_def, ← Rat.divInt_mul_divInt, Rat.num_divInt_den]

theorem ln_one : ln (1 : Int) = 1 := by
  have h1 : ln (1 : Int) ≤ 1 := ln_small (by decide)
  have h2 : ln (1 : Int) ≠ 0 := fun h => by rw [ln_eq_zero] at h; omega
  omega
theorem lq_divInt {A B : Int} {K : Nat} (hB : B ≠ 0) (h1 : ln A ≤ K) (h2 : ln B ≤ K) : lq (Rat.divInt A B) ≤ K := by
  unfold lq
  rcases Int.lt_or_le B 0 with h | h
  · rw [num_neg h, den_neg h]
    have := ln_tdiv A (-(Int.gcd A B)); have := ln_tdiv B (-(Int.gcd A B)); omega
  · rw [num_pos (by omega), den_pos (by omega)]
    have := ln_tdiv A (Int.gcd A B); have := ln_tdiv B (Int.gcd A B); omega
theorem dd_ne (x y : Rat) : (x.den : Int) * y.den ≠ 0 := Int.mul_ne_zero (Int.ne_of_gt (dpos x)) (Int.ne_of_gt (dpos y))
theorem lq_num (x : Rat) : ln x.num ≤ lq x := Nat.le_max_left _ _
theorem lq_den (x : Rat) : ln (x.den : Int) ≤ lq x := Nat.le_max_right _ _
theorem lq_cross (x y : Rat) : ln (x.num * y.den) ≤ lq x + lq y := by
  have := ln_mul x.num y.den; have := lq_num x; have := lq_den y; omega
theorem lq_dd (x y : Rat) : ln ((x.den : Int) * y.den) ≤ lq x + lq y := by
  have := ln_mul x.den y.den; have := lq_den x; have := lq_den y; omega
theorem lq_sum (x y : Rat) : ln (x.num * y.den + y.num * x.den) ≤ lq x + lq y + 1 := by
  have := ln_add (x.num * y.den) (y.num * x.den); have := lq_cross x y; have := lq_cross y x; omega
theorem lq_add (x y : Rat) : lq (x + y) ≤ lq x + lq y + 1 := by
  rw [← add_least]
  exact lq_divInt (dd_ne x y) (lq_sum x y) (by have := lq_dd x y; omega)
theorem lq_mul (x y : Rat) : lq (x * y) ≤ lq x + lq y := by
  rw [← mul_least]
  refine lq_divInt (dd_ne x y) ?_ (lq_dd x y)
  have := ln_mul x.num y.num; have := lq_num x; have := lq_num y; omega
theorem lq_neg (x : Rat) : lq (-x) = lq x := by unfold lq; rw [Rat.neg_num, Rat.neg_den, ln_neg]
theorem lq_sub (x y : Rat) : lq (x - y) ≤ lq x + lq y + 1 := by
  have := lq_add x (-y); rw [lq_neg] at this; rw [Rat.sub_eq_add_neg]; exact this
theorem lq_int (n : Int) : lq (n : Rat) ≤ max (ln n) 1 := by
  unfold lq
  rw [Rat.num_intCast, Rat.den_intCast, show ((1 : Nat) : Int) = 1 from rfl, ln_one]
  exact Nat.le_refl _
theorem lq_zero : lq 0 = 1 := by
  unfold lq
  rw [Rat.zero_num, Rat.zero_den, ln_zero, show ((1 : Nat) : Int) = 1 from rfl, ln_one]
  rfl
theorem lq_dq (h1 : Lim pl) (h2 : Lim ql) : lq (dq pn pl qn ql) ≤ max (max pl.length ql.length) 1 := by
  cases h : mayQ pn pl qn ql with
  | false => rw [dq_not h, lq_zero]; omega
  | true =>
    cases h0 : zeroQ pn pl qn ql with
    | true => rw [dq_zero h0, lq_zero]; omega
    | false =>
      obtain ⟨e1, e2⟩ := dq_parts h2 h h0
      unfold lq
      rw [e1, e2]
      have := ln_den (n := pn) h1; have := ln_den (n := qn) h2; omega
theorem lq_div (x : Rat) {y : Rat} (hy : y ≠ 0) : lq (x / y) ≤ lq x + lq y := by
  rw [← div_least]
  have hn : y.num ≠ 0 := fun h => hy (Rat.num_eq_zero.1 h)
  refine lq_divInt (Int.mul_ne_zero (Int.ne_of_gt (dpos x)) hn) (lq_cross x y) ?_
  have := ln_mul (x.den : Int) y.num; have := lq_den x; have := lq_num y; omega

/-! ### which is greater -/
theorem cq_neg {x y : Rat} : cq x y < 0 ↔ x < y := by
  unfold cq; rw [sg_neg, Rat.lt_iff]; omega
theorem cq_pos {x y : Rat} : 0 < cq x y ↔ y < x := by
  unfold cq; rw [sg_pos, Rat.lt_iff]; omega
theorem cq_eq {x y : Rat} : cq x y = 0 ↔ x = y := by
  unfold cq; rw [sg_eq0, Rat.eq_iff_mul_eq_mul]; omega
theorem cq_swap (x y : Rat) : cq y x = - cq x y := by
  unfold cq sg
  rcases Int.lt_trichotomy (x.num * y.den) (y.num * x.den) with h | h | h
  · rw [if_neg (by omega), if_pos (by omega), if_pos (by omega)]; rfl
  · rw [if_neg (by omega), if_neg (by omega), if_neg (by omega), if_neg (by omega)]; rfl
  · rw [if_pos (by omega), if_neg (by omega), if_pos (by omega)]
theorem cq_bd (x y : Rat) : -1 ≤ cq x y ∧ cq x y ≤ 1 := by
  unfold cq sg; split
  · omega
  · split <;> omega
theorem cq_self (x : Rat) : cq x x = 0 := cq_eq.2 rfl
end Go.Abs

/- The quotients of rat: calls of values. -/
set_option linter.unusedVariables false
set_option linter.unusedSimpArgs false
namespace Go.Abs
open Go Go.Proofs
set_option maxRecDepth 100000
set_option maxHeartbeats 4000000

abbrev R4 (pn : Bool) (pl : List Int) (qn : Bool) (ql : List Int) : Value := .agg ⟨[.bool pn, Vv eU pl, .bool qn, Vv eU ql]⟩
abbrev Qn (x : Rat) : Value := .agg ⟨[.bool (sgn x.num), Vv eU (lmb x.num), .bool (sgn x.den), Vv eU (lmb x.den)]⟩
variable {n pn qn pn' qn' : Bool} {l pl ql pl' ql' : List Int}
theorem R4_eq : R4 pn pl qn ql = .agg ⟨[.bool pn, Vv eU pl, .bool qn, Vv eU ql]⟩ := _root_.id rfl
theorem Qn_eq (x : Rat) : Qn x = .agg ⟨[.bool (sgn x.num), Vv eU (lmb x.num), .bool (sgn x.den), Vv eU (lmb x.den)]⟩ := _root_.id rfl
attribute [go_sem] R4_eq Qn_eq dq_q
theorem pu_r4 : Pu (R4 pn pl qn ql) := .agg (.cons (.ground rfl) (.cons pu_U (.cons (.ground rfl) (.cons pu_U .nil))))

theorem gcd_lb {a b : Int} {K : Nat} (hA : ln a ≤ K) (hB : ln b ≤ K) : ln (Int.gcd a b : Int) ≤ K := by
  by_cases h : a = 0
  · rw [h]; simp; exact Nat.le_trans (ln_mono (by omega)) hB
  · exact Nat.le_trans (ln_mono (by have := Int.gcd_le_natAbs_left b h; omega)) hA
end Go.Abs
