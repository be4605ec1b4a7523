/- Joined: V1, V2. -/
import Derived.Test.YtfadclnaahanmaaQc
/- Quotients, plainly: what four parts tell, their least form, how many limbs. -/
set_option linter.unusedVariables false
set_option linter.unusedSimpArgs false
namespace Go.Abs
open Go Go.Proofs
set_option maxRecDepth 100000

/-! ### what four parts tell -/
def zeroQ (pn : Bool) (pl : List Int) (qn : Bool) (ql : List Int) : Bool := !pn && decide (pl.length = 0) && !qn && decide (ql.length = 0)
def mayQ (pn : Bool) (pl : List Int) (qn : Bool) (ql : List Int) : Bool :=
  zeroQ pn pl qn ql || (mayB pn pl && mayB qn ql && !qn && decide (den qn ql ≠ 0) && decide (Int.gcd (den pn pl) (den qn ql) = 1))
def dq (pn : Bool) (pl : List Int) (qn : Bool) (ql : List Int) : Rat := if mayQ pn pl qn ql = true then Rat.divInt (den pn pl) (den qn ql) else 0
def lq (x : Rat) : Nat := max (ln x.num) (ln x.den)
def cq (x y : Rat) : Int := sg (x.num * y.den - y.num * x.den)

/-! ### least forms -/
/-! ### parts -/
variable {pn qn : Bool} {pl ql : List Int}
theorem sgn_d (x : Rat) : sgn (x.den : Int) = false := by unfold sgn; simp
theorem gcd_rat (x : Rat) : Int.gcd x.num (x.den : Int) = 1 := by
  have := x.reduced
  unfold Nat.Coprime at this
  unfold Int.gcd
  simpa using this
theorem mayQ_q (x : Rat) : mayQ (sgn x.num) (lmb x.num) (sgn x.den) (lmb x.den) = true := by
  unfold mayQ
  rw [may_z, may_z, den_z, den_z, gcd_rat, sgn_d]
  simp [x.den_nz]
theorem dq_q (x : Rat) : dq (sgn x.num) (lmb x.num) (sgn x.den) (lmb x.den) = x := by
  unfold dq
  rw [if_pos (mayQ_q x), den_z, den_z, Rat.num_divInt_den]
/-! ### sums, products -/
/-! ### which is greater -/
end Go.Abs

/- The quotients of rat: calls of values. -/
set_option linter.unusedVariables false
set_option linter.unusedSimpArgs false
namespace Go.Abs
open Go Go.Proofs
set_option maxRecDepth 100000
set_option maxHeartbeats 4000000

abbrev R4 (pn : Bool) (pl : List Int) (qn : Bool) (ql : List Int) : Value := .agg ⟨[.bool pn, Vv eU pl, .bool qn, Vv eU ql]⟩
abbrev Qn (x : Rat) : Value := .agg ⟨[.bool (sgn x.num), Vv eU (lmb x.num), .bool (sgn x.den), Vv eU (lmb x.den)]⟩
variable {n pn qn pn' qn' : Bool} {l pl ql pl' ql' : List Int}
theorem R4_eq : R4 pn pl qn ql = .agg ⟨[.bool pn, Vv eU pl, .bool qn, Vv eU ql]⟩ := _root_.id rfl
theorem Qn_eq (x : Rat) : Qn x = .agg ⟨[.bool (sgn x.num), Vv eU (lmb x.num), .bool (sgn x.den), Vv eU (lmb x.den)]⟩ := _root_.id rfl
attribute [go_sem] R4_eq Qn_eq dq_q
end Go.Abs
