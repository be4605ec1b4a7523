/- Joined: W1, W2, W3, W4, W5. -/
import Derived.Test.YtoahhljnnjekiaaV7
import Derived.Test.YtoahhljnnjekiaaB9
import Derived.Test.YtoahhljnnjekiaaYc
import Derived.Test.YtoahhljnnjekiaaY10
/- Quotients with two ends: calls of values. -/
set_option linter.unusedVariables false
set_option linter.unusedSimpArgs false
namespace Go.Abs
open Go Go.Proofs
set_option maxRecDepth 100000
set_option maxHeartbeats 4000000

/-! ### plainly -/
inductive XR where
  | lo : XR
  | fin (x : Rat) : XR
  | hi : XR
def xk : XR → Int
  | .lo => -1
  | .fin _ => 0
  | .hi => 1
def xq : XR → Rat
  | .fin x => x
  | _ => 0
def mayX (k : Int) (pn : Bool) (pl : List Int) (qn : Bool) (ql : List Int) : Bool := if k = 0 then mayQ pn pl qn ql else if k = 1 ∨ k = -1 then zeroQ pn pl qn ql else false
def dx (k : Int) (pn : Bool) (pl : List Int) (qn : Bool) (ql : List Int) : XR := if mayX k pn pl qn ql = true then (if k = 0 then .fin (dq pn pl qn ql) else if k = 1 then .hi else .lo) else .fin 0
abbrev X5 (k : Int) (pn : Bool) (pl : List Int) (qn : Bool) (ql : List Int) : Value := .agg ⟨[.int .i64 k, .bool pn, Vv eU pl, .bool qn, Vv eU ql]⟩
def xv : XR → RX
  | .lo => ⟨-1, eQ.d⟩
  | .fin x => ⟨0, rq x⟩
  | .hi => ⟨1, eQ.d⟩
abbrev Xn (e : XR) : Value := .agg ⟨eX.enc (xv e)⟩
def lx (e : XR) : Nat := lq (xq e)
def cx (a b : XR) : Int := if xk a < xk b then -1 else if xk b < xk a then 1 else cq (xq a) (xq b)
theorem pu_x5 {k : Int} {pn qn : Bool} {pl ql : List Int} : Pu (X5 k pn pl qn ql) := .agg (.cons (.ground rfl) (.cons (.ground rfl) (.cons pu_U (.cons (.ground rfl) (.cons pu_U .nil)))))
theorem pu_x {e : XR} : Pu (Xn e) := pu_x5
theorem X5_eq {k : Int} {pn qn : Bool} {pl ql : List Int} : X5 k pn pl qn ql = .agg ⟨[.int .i64 k, .bool pn, Vv eU pl, .bool qn, Vv eU ql]⟩ := _root_.id rfl
theorem Xn_lo : Xn .lo = .agg ⟨[.int .i64 (-1), .bool false, Vv eU [], .bool false, Vv eU []]⟩ := _root_.id rfl
theorem Xn_hi : Xn .hi = .agg ⟨[.int .i64 1, .bool false, Vv eU [], .bool false, Vv eU []]⟩ := _root_.id rfl
theorem Xn_fin {x : Rat} : Xn (.fin x) = .agg ⟨[.int .i64 0, .bool (sgn x.num), Vv eU (lmb x.num), .bool (sgn x.den), Vv eU (lmb x.den)]⟩ := _root_.id rfl
attribute [go_sem] X5_eq Xn_lo Xn_hi Xn_fin
variable {pn qn pn' qn' : Bool} {pl ql pl' ql' : List Int} {k k' : Int} {H : Heap} {K : Value → Heap → Prop}
theorem nzQ {v : Value} : Nzs [v, R4 false [] false []] [v, .agg ⟨[.bool false, .slice none 0 0, .bool false, .slice none 0 0]⟩] := .cons .rfl (.cons (.agg (.cons .rfl (.cons .vnil (.cons .rfl (.cons .vnil .nil))))) .nil)
theorem lr_nil : Lr [] := ⟨Lim.nil, by simp⟩
theorem s78n (h1 : Lr pl) (h2 : Lr ql) (kk : ∀ m, H.next ≤ m → K (Qn (dq pn pl qn ql)) (H.bump m)) : ACalls Try.prog 42 [R4 pn pl qn ql, .agg ⟨[.bool false, .slice none 0 0, .bool false, .slice none 0 0]⟩] H K :=
  ACalls.nz nzQ (PC.step ((p78 h1 h2 lr_nil lr_nil).ok (by rw [dq_nought, Rat.add_zero])) kk)
theorem fz_x0 {e : Int} : FzRel Try.prog H (.agg ⟨[.int .i64 e, .bool false, Vv eU [], .bool false, Vv eU []]⟩) (.agg ⟨[.int .i64 e, .bool false, .slice none 0 0, .bool false, .slice none 0 0]⟩) :=
  .nz (.agg (.cons .rfl (.cons .rfl (.cons .vnil (.cons .rfl (.cons .vnil .nil))))))
end Go.Abs

/- Quotients with two ends: order, the greater, the less, sums. -/
set_option linter.unusedVariables false
set_option linter.unusedSimpArgs false
namespace Go.Abs
open Go Go.Proofs
set_option maxRecDepth 100000
set_option maxHeartbeats 4000000
def plW2_102_1 : Plan := ⟨[0, 2], [(1, [2], []), (3, [], []), (4, [], []), (5, [], [])]⟩
variable {pn qn pn' qn' : Bool} {pl ql pl' ql' : List Int} {k k' : Int} {H : Heap} {K : Value → Heap → Prop}

theorem Xn_eq (e : XR) : Xn e = .agg ⟨[.int .i64 (xv e).kind, .bool (xv e).v.p.neg, Vv eU (xv e).v.p.l, .bool (xv e).v.q.neg, Vv eU (xv e).v.q.l]⟩ := _root_.id rfl
theorem lx_dx (h1 : Lr pl) (h2 : Lr ql) : lx (dx k pn pl qn ql) ≤ 2 ^ 37 := by
  have h := h1.q (pn := pn) (qn := qn) h2
  unfold dx lx
  split
  · split
    · exact h
    · split
      · show lq 0 ≤ _; rw [lq_zero]; decide
      · show lq 0 ≤ _; rw [lq_zero]; decide
  · show lq 0 ≤ _; rw [lq_zero]; decide
/-- The greater, the less of two. -/
def mxX (a b : XR) : XR := if cx a b < 0 then b else a
def mnX (a b : XR) : XR := if 0 < cx a b then b else a
/-- One and a quotient. -/
def adX (a : XR) (y : Rat) : XR := match a with
  | .fin x => .fin (x + y)
  | a => a
end Go.Abs

/- The document's quotients with two ends. -/
set_option linter.unusedVariables false
set_option linter.unusedSimpArgs false
namespace Go.Abs
open Go Go.Proofs
set_option maxRecDepth 100000
set_option maxHeartbeats 4000000
variable {pn qn pn' qn' : Bool} {pl ql pl' ql' : List Int} {k k' : Int} {H : Heap} {K : Value → Heap → Prop}
theorem zeroQ_form (h : zeroQ pn pl qn ql = true) : pn = false ∧ pl = [] ∧ qn = false ∧ ql = [] := by
  simp only [zeroQ, Bool.and_eq_true, Bool.not_eq_true', decide_eq_true_eq] at h
  exact ⟨h.1.1.1, List.length_eq_zero_iff.1 h.1.1.2, h.1.2, List.length_eq_zero_iff.1 h.2⟩
theorem xv_lo : xv .lo = ⟨-1, ⟨⟨false, []⟩, ⟨false, []⟩⟩⟩ := _root_.id rfl
theorem xv_hi : xv .hi = ⟨1, ⟨⟨false, []⟩, ⟨false, []⟩⟩⟩ := _root_.id rfl
theorem xv_fin {x : Rat} : xv (.fin x) = ⟨0, ⟨⟨sgn x.num, lmb x.num⟩, ⟨sgn x.den, lmb x.den⟩⟩⟩ := _root_.id rfl
end Go.Abs

/- The order of quotients with two ends, plainly. -/
set_option linter.unusedVariables false
set_option linter.unusedSimpArgs false
namespace Go.Abs
open Go Go.Proofs
set_option maxRecDepth 100000
set_option maxHeartbeats 4000000
theorem cq_lt {x y : Rat} (h : x < y) : cq x y = -1 := by have := cq_neg.2 h; have := cq_bd x y; omega
theorem cq_gt {x y : Rat} (h : y < x) : cq x y = 1 := by have := cq_pos.2 h; have := cq_bd x y; omega
theorem cq_le {x y : Rat} : cq x y ≤ 0 ↔ x ≤ y := by
  rw [← Rat.not_lt, ← cq_pos]; omega
theorem cq_tri (x y : Rat) : (x < y ∧ cq x y = -1) ∨ (x = y ∧ cq x y = 0) ∨ (y < x ∧ cq x y = 1) := by
  by_cases h : x = y
  · exact .inr (.inl ⟨h, cq_eq.2 h⟩)
  · by_cases h2 : x < y
    · exact .inl ⟨h2, cq_lt h2⟩
    · have h3 : y < x := Rat.lt_of_le_of_ne (Rat.not_lt.1 h2) fun e => h e.symm
      exact .inr (.inr ⟨h3, cq_gt h3⟩)
theorem cq_add (x y z : Rat) : cq (x + z) (y + z) = cq x y := by
  rcases cq_tri x y with ⟨h, e⟩ | ⟨h, e⟩ | ⟨h, e⟩
  · rw [e]; exact cq_lt (Rat.add_lt_add_right.2 h)
  · rw [e, h]; exact cq_self _
  · rw [e]; exact cq_gt (Rat.add_lt_add_right.2 h)
theorem cx_fin {x y : Rat} : cx (.fin x) (.fin y) = cq x y := rfl
theorem cx_ll : cx .lo .lo = 0 := rfl
theorem cx_hh : cx .hi .hi = 0 := rfl
theorem cx_lh : cx .lo .hi = -1 := rfl
theorem cx_hl : cx .hi .lo = 1 := rfl
theorem cx_lf {x : Rat} : cx .lo (.fin x) = -1 := rfl
theorem cx_fl {x : Rat} : cx (.fin x) .lo = 1 := rfl
theorem cx_hf {x : Rat} : cx .hi (.fin x) = 1 := rfl
theorem cx_fh {x : Rat} : cx (.fin x) .hi = -1 := rfl
theorem cx_swap (a b : XR) : cx b a = -cx a b := by
  rcases a with _ | x | _ <;> rcases b with _ | y | _ <;> first | rfl | exact cq_swap x y
theorem cx_self (a : XR) : cx a a = 0 := by
  rcases a with _ | x | _ <;> first | rfl | exact cq_self x
theorem cx_eq {a b : XR} : cx a b = 0 ↔ a = b := by
  refine ⟨fun h => ?_, fun h => by rw [h, cx_self]⟩
  rcases a with _ | x | _ <;> rcases b with _ | y | _ <;> first | rfl | (have := cq_eq.1 h; subst this; rfl) | (simp only [cx_ll, cx_lf, cx_lh, cx_fl, cx_fh, cx_hl, cx_hf, cx_hh] at h; omega)
theorem cx_trans {a b c : XR} (h1 : cx a b ≤ 0) (h2 : cx b c ≤ 0) : cx a c ≤ 0 := by
  rcases a with _ | x | _ <;> rcases b with _ | y | _ <;> rcases c with _ | z | _ <;> first | exact cq_le.2 (Rat.le_trans (cq_le.1 h1) (cq_le.1 h2)) | (simp only [cx_ll, cx_lf, cx_lh, cx_fl, cx_fh, cx_hl, cx_hf, cx_hh] at h1 h2 ⊢; omega) | (simp only [cx_ll, cx_lf, cx_lh, cx_fl, cx_fh, cx_hl, cx_hf, cx_hh] at h1 ⊢; omega) | (simp only [cx_ll, cx_lf, cx_lh, cx_fl, cx_fh, cx_hl, cx_hf, cx_hh] at h2 ⊢; omega) | (simp only [cx_ll, cx_lf, cx_lh, cx_fl, cx_fh, cx_hl, cx_hf, cx_hh] at h1; omega) | (simp only [cx_ll, cx_lf, cx_lh, cx_fl, cx_fh, cx_hl, cx_hf, cx_hh] at h2; omega) | (simp only [cx_ll, cx_lf, cx_lh, cx_fl, cx_fh, cx_hl, cx_hf, cx_hh]; omega)
theorem cx_bd (a b : XR) : -1 ≤ cx a b ∧ cx a b ≤ 1 := by
  rcases a with _ | x | _ <;> rcases b with _ | y | _ <;> first | exact cq_bd x y | (simp only [cx_ll, cx_lf, cx_lh, cx_fl, cx_fh, cx_hl, cx_hf, cx_hh]; omega)
theorem cx_lo (a : XR) : cx .lo a ≤ 0 := by rcases a with _ | x | _ <;> simp only [cx_ll, cx_lf, cx_lh, cx_fl, cx_fh, cx_hl, cx_hf, cx_hh] <;> omega
theorem cx_hi (a : XR) : cx a .hi ≤ 0 := by rcases a with _ | x | _ <;> simp only [cx_ll, cx_lf, cx_lh, cx_fl, cx_fh, cx_hl, cx_hf, cx_hh] <;> omega
theorem cx_add (a b : XR) (z : Rat) : cx (adX a z) (adX b z) = cx a b := by
  rcases a with _ | x | _ <;> rcases b with _ | y | _ <;> first | rfl | exact cq_add x y z
theorem mx_or (a b : XR) : mxX a b = a ∨ mxX a b = b := by unfold mxX; split <;> simp
theorem mn_or (a b : XR) : mnX a b = a ∨ mnX a b = b := by unfold mnX; split <;> simp
theorem mx_l (a b : XR) : cx a (mxX a b) ≤ 0 := by
  unfold mxX; split
  · omega
  · rw [cx_self]; omega
theorem mx_r (a b : XR) : cx b (mxX a b) ≤ 0 := by
  unfold mxX; split
  · rw [cx_self]; omega
  · rw [cx_swap]; omega
theorem mn_l (a b : XR) : cx (mnX a b) a ≤ 0 := by
  unfold mnX; split
  · rw [cx_swap]; omega
  · rw [cx_self]; omega
theorem mn_r (a b : XR) : cx (mnX a b) b ≤ 0 := by
  unfold mnX; split
  · rw [cx_self]; omega
  · omega
theorem lx_mx (a b : XR) {K : Nat} (ha : lx a ≤ K) (hb : lx b ≤ K) : lx (mxX a b) ≤ K := by rcases mx_or a b with e | e <;> rw [e] <;> assumption
theorem lx_mn (a b : XR) {K : Nat} (ha : lx a ≤ K) (hb : lx b ≤ K) : lx (mnX a b) ≤ K := by rcases mn_or a b with e | e <;> rw [e] <;> assumption
theorem lx_ad (a : XR) (z : Rat) : lx (adX a z) ≤ lx a + lq z + 1 := by
  rcases a with _ | x | _
  · show lq 0 ≤ lq 0 + _ + 1; omega
  · exact lq_add x z
  · show lq 0 ≤ lq 0 + _ + 1; omega
/-- The greatest, the least of many, from either side. -/
def fMax (x : Nat → XR) (a : XR) : Nat → XR
  | 0 => a
  | k + 1 => mxX (fMax x a k) (x k)
def gMax (x : Nat → XR) (a : XR) : Nat → XR
  | 0 => a
  | k + 1 => mxX (x k) (gMax x a k)
def fMin (x : Nat → XR) (a : XR) : Nat → XR
  | 0 => a
  | k + 1 => mnX (fMin x a k) (x k)
def gMin (x : Nat → XR) (a : XR) : Nat → XR
  | 0 => a
  | k + 1 => mnX (x k) (gMin x a k)
variable {x y : Nat → XR} {a b : XR} {n : Nat}
theorem fMax_ub : ∀ {k : Nat}, cx a (fMax x a k) ≤ 0 ∧ ∀ i, i < k → cx (x i) (fMax x a k) ≤ 0
  | 0 => ⟨by rw [fMax, cx_self]; omega, fun i hi => by omega⟩
  | k + 1 => by
    obtain ⟨h1, h2⟩ := fMax_ub (k := k)
    refine ⟨cx_trans h1 (mx_l _ _), fun i hi => ?_⟩
    rcases Nat.lt_or_ge i k with h | h
    · exact cx_trans (h2 i h) (mx_l _ _)
    · have : i = k := by omega
      subst this; exact mx_r _ _
theorem gMax_ub : ∀ {k : Nat}, cx a (gMax x a k) ≤ 0 ∧ ∀ i, i < k → cx (x i) (gMax x a k) ≤ 0
  | 0 => ⟨by rw [gMax, cx_self]; omega, fun i hi => by omega⟩
  | k + 1 => by
    obtain ⟨h1, h2⟩ := gMax_ub (k := k)
    refine ⟨cx_trans h1 (mx_r _ _), fun i hi => ?_⟩
    rcases Nat.lt_or_ge i k with h | h
    · exact cx_trans (h2 i h) (mx_r _ _)
    · have : i = k := by omega
      subst this; exact mx_l _ _
theorem fMin_lb : ∀ {k : Nat}, cx (fMin x a k) a ≤ 0 ∧ ∀ i, i < k → cx (fMin x a k) (x i) ≤ 0
  | 0 => ⟨by rw [fMin, cx_self]; omega, fun i hi => by omega⟩
  | k + 1 => by
    obtain ⟨h1, h2⟩ := fMin_lb (k := k)
    refine ⟨cx_trans (mn_l _ _) h1, fun i hi => ?_⟩
    rcases Nat.lt_or_ge i k with h | h
    · exact cx_trans (mn_l _ _) (h2 i h)
    · have : i = k := by omega
      subst this; exact mn_r _ _
theorem gMin_lb : ∀ {k : Nat}, cx (gMin x a k) a ≤ 0 ∧ ∀ i, i < k → cx (gMin x a k) (x i) ≤ 0
  | 0 => ⟨by rw [gMin, cx_self]; omega, fun i hi => by omega⟩
  | k + 1 => by
    obtain ⟨h1, h2⟩ := gMin_lb (k := k)
    refine ⟨cx_trans (mn_r _ _) h1, fun i hi => ?_⟩
    rcases Nat.lt_or_ge i k with h | h
    · exact cx_trans (mn_r _ _) (h2 i h)
    · have : i = k := by omega
      subst this; exact mn_l _ _
theorem fMax_mem : ∀ {k : Nat}, fMax x a k = a ∨ ∃ i, i < k ∧ fMax x a k = x i
  | 0 => .inl rfl
  | k + 1 => by
    have ih := fMax_mem (k := k)
    have ho : fMax x a (k + 1) = fMax x a k ∨ fMax x a (k + 1) = x k := by rcases mx_or (fMax x a k) (x k) with e | e <;> first | exact .inl e | exact .inr e
    rcases ho with e | e
    · rw [e]
      rcases ih with h | ⟨i, h1, h2⟩
      · exact .inl h
      · exact .inr ⟨i, by omega, h2⟩
    · exact .inr ⟨k, by omega, e⟩
theorem gMax_mem : ∀ {k : Nat}, gMax x a k = a ∨ ∃ i, i < k ∧ gMax x a k = x i
  | 0 => .inl rfl
  | k + 1 => by
    have ih := gMax_mem (k := k)
    have ho : gMax x a (k + 1) = gMax x a k ∨ gMax x a (k + 1) = x k := by rcases mx_or (x k) (gMax x a k) with e | e <;> first | exact .inl e | exact .inr e
    rcases ho with e | e
    · rw [e]
      rcases ih with h | ⟨i, h1, h2⟩
      · exact .inl h
      · exact .inr ⟨i, by omega, h2⟩
    · exact .inr ⟨k, by omega, e⟩
theorem fMin_mem : ∀ {k : Nat}, fMin x a k = a ∨ ∃ i, i < k ∧ fMin x a k = x i
  | 0 => .inl rfl
  | k + 1 => by
    have ih := fMin_mem (k := k)
    have ho : fMin x a (k + 1) = fMin x a k ∨ fMin x a (k + 1) = x k := by rcases mn_or (fMin x a k) (x k) with e | e <;> first | exact .inl e | exact .inr e
    rcases ho with e | e
    · rw [e]
      rcases ih with h | ⟨i, h1, h2⟩
      · exact .inl h
      · exact .inr ⟨i, by omega, h2⟩
    · exact .inr ⟨k, by omega, e⟩
theorem gMin_mem : ∀ {k : Nat}, gMin x a k = a ∨ ∃ i, i < k ∧ gMin x a k = x i
  | 0 => .inl rfl
  | k + 1 => by
    have ih := gMin_mem (k := k)
    have ho : gMin x a (k + 1) = gMin x a k ∨ gMin x a (k + 1) = x k := by rcases mn_or (x k) (gMin x a k) with e | e <;> first | exact .inl e | exact .inr e
    rcases ho with e | e
    · rw [e]
      rcases ih with h | ⟨i, h1, h2⟩
      · exact .inl h
      · exact .inr ⟨i, by omega, h2⟩
    · exact .inr ⟨k, by omega, e⟩
theorem anti {a b : XR} (h1 : cx a b ≤ 0) (h2 : cx b a ≤ 0) : a = b := cx_eq.1 (by have := cx_swap a b; omega)
theorem max_one (hn : 0 < n) : fMax x (x 0) n = gMax (fun i => x (n - 1 - i)) (x (n - 1)) n := by
  obtain ⟨f1, f2⟩ := fMax_ub (x := x) (a := x 0) (k := n)
  obtain ⟨g1, g2⟩ := gMax_ub (x := fun i => x (n - 1 - i)) (a := x (n - 1)) (k := n)
  have g3 (i : Nat) (hi : i < n) : cx (x i) (gMax (fun i => x (n - 1 - i)) (x (n - 1)) n) ≤ 0 := by
    have := g2 (n - 1 - i) (by omega)
    rwa [show n - 1 - (n - 1 - i) = i by omega] at this
  refine anti ?_ ?_
  · rcases fMax_mem (x := x) (a := x 0) (k := n) with e | ⟨i, hi, e⟩
    · rw [e]; exact g3 0 hn
    · rw [e]; exact g3 i hi
  · rcases gMax_mem (x := fun i => x (n - 1 - i)) (a := x (n - 1)) (k := n) with e | ⟨i, hi, e⟩
    · rw [e]; exact f2 (n - 1) (by omega)
    · rw [e]; exact f2 (n - 1 - i) (by omega)
theorem min_one (hn : 0 < n) : fMin x (x 0) n = gMin (fun i => x (n - 1 - i)) (x (n - 1)) n := by
  obtain ⟨f1, f2⟩ := fMin_lb (x := x) (a := x 0) (k := n)
  obtain ⟨g1, g2⟩ := gMin_lb (x := fun i => x (n - 1 - i)) (a := x (n - 1)) (k := n)
  have g3 (i : Nat) (hi : i < n) : cx (gMin (fun i => x (n - 1 - i)) (x (n - 1)) n) (x i) ≤ 0 := by
    have := g2 (n - 1 - i) (by omega)
    rwa [show n - 1 - (n - 1 - i) = i by omega] at this
  refine anti ?_ ?_
  · rcases gMin_mem (x := fun i => x (n - 1 - i)) (a := x (n - 1)) (k := n) with e | ⟨i, hi, e⟩
    · rw [e]; exact f2 (n - 1) (by omega)
    · rw [e]; exact f2 (n - 1 - i) (by omega)
  · rcases fMin_mem (x := x) (a := x 0) (k := n) with e | ⟨i, hi, e⟩
    · rw [e]; exact g3 0 hn
    · rw [e]; exact g3 i hi
theorem lx_fMax {K : Nat} (ha : lx a ≤ K) : ∀ {k : Nat}, (∀ i, i < k → lx (x i) ≤ K) → lx (fMax x a k) ≤ K
  | 0, _ => ha
  | k + 1, h => lx_mx _ _ (lx_fMax ha fun i hi => h i (by omega)) (h k (by omega))
theorem lx_gMax {K : Nat} (ha : lx a ≤ K) : ∀ {k : Nat}, (∀ i, i < k → lx (x i) ≤ K) → lx (gMax x a k) ≤ K
  | 0, _ => ha
  | k + 1, h => lx_mx _ _ (h k (by omega)) (lx_gMax ha fun i hi => h i (by omega))
theorem lx_fMin {K : Nat} (ha : lx a ≤ K) : ∀ {k : Nat}, (∀ i, i < k → lx (x i) ≤ K) → lx (fMin x a k) ≤ K
  | 0, _ => ha
  | k + 1, h => lx_mn _ _ (lx_fMin ha fun i hi => h i (by omega)) (h k (by omega))
theorem lx_gMin {K : Nat} (ha : lx a ≤ K) : ∀ {k : Nat}, (∀ i, i < k → lx (x i) ≤ K) → lx (gMin x a k) ≤ K
  | 0, _ => ha
  | k + 1, h => lx_mn _ _ (h k (by omega)) (lx_gMin ha fun i hi => h i (by omega))
end Go.Abs

/- Quotients' texts. -/
set_option linter.unusedVariables false
set_option linter.unusedSimpArgs false
namespace Go.Abs
open Go Go.Proofs
set_option maxRecDepth 100000
set_option maxHeartbeats 4000000
def plW5_81_3 : Plan := ⟨[0, 1], [(2, [1], []), (3, [], [4])]⟩
def plW5_82_2 : Plan := ⟨[0, 1], [(2, [1], []), (3, [], [])]⟩
def plW5_82_4 : Plan := ⟨[0, 1, 4, 5], [(2, [5], [3]), (6, [], [7, 8])]⟩
theorem chs_app (a b : ByteArray) : chs (a ++ b) = chs a ++ chs b := by
  unfold chs
  rw [ByteArray.data_append, Array.toList_append, List.map_append]
theorem bsOf_app {a b : List Int} (ha : ∀ x ∈ a, 0 ≤ x ∧ x < 256) (hb : ∀ x ∈ b, 0 ≤ x ∧ x < 256) : bsOf a ++ bsOf b = bsOf (a ++ b) := by
  apply chs_inj
  rw [chs_app, chs_bsOf ha, chs_bsOf hb, chs_bsOf]
  intro x hx
  rcases List.mem_append.1 hx with h | h
  · exact ha x h
  · exact hb x h
theorem bsOf_size {a : List Int} (ha : ∀ x ∈ a, 0 ≤ x ∧ x < 256) : (bsOf a).size = a.length := by rw [← chs_len, chs_bsOf ha]
def txtQ (x : Rat) : List Int := txt x.num ++ (if x.den = 1 then [] else 47 :: txt x.den)
def txtX : XR → List Int
  | .lo => [45, 105, 110, 102]
  | .hi => [105, 110, 102]
  | .fin x => txtQ x
theorem txt_mem {z x : Int} (h : x ∈ txt z) : x = 45 ∨ isDig x := by
  have h1 : ∀ n, ∀ x ∈ (decL n).reverse, isDig x := fun n x hx => decL_dig n x (List.mem_reverse.1 hx)
  unfold txt at h
  split at h
  · rcases List.mem_singleton.1 h with rfl; exact .inr ⟨by decide, by decide⟩
  · split at h
    · rcases List.mem_cons.1 h with rfl | h
      · exact .inl rfl
      · exact .inr (h1 _ x h)
    · exact .inr (h1 _ x h)
theorem txt_no {z : Int} {x : Int} (h : x ∈ txt z) : x ≠ 47 := by
  rcases txt_mem h with rfl | h
  · decide
  · unfold isDig at h; omega
theorem txtQ_mem {y : Rat} {x : Int} (h : x ∈ txtQ y) : x = 45 ∨ x = 47 ∨ isDig x := by
  unfold txtQ at h
  rcases List.mem_append.1 h with h | h
  · exact (txt_mem h).imp id .inr
  · split at h
    · cases h
    · rcases List.mem_cons.1 h with rfl | h
      · exact .inr (.inl rfl)
      · exact (txt_mem h).imp id .inr
theorem txtQ_bd (y : Rat) : ∀ x ∈ txtQ y, 0 ≤ x ∧ x < 256 := fun x hx => by
  rcases txtQ_mem hx with rfl | rfl | h
  · decide
  · decide
  · unfold isDig at h; omega
theorem txtX_bd (a : XR) : ∀ x ∈ txtX a, 0 ≤ x ∧ x < 256 := by
  rcases a with _ | y | _
  · intro x hx; simp [txtX] at hx; omega
  · exact txtQ_bd y
  · intro x hx; simp [txtX] at hx; omega
theorem part_inj {A B S T : List Int} (hA : ∀ x ∈ A, x ≠ 47) (hB : ∀ x ∈ B, x ≠ 47) (hS : S = [] ∨ ∃ s, S = 47 :: s) (hT : T = [] ∨ ∃ t, T = 47 :: t) (h : A ++ S = B ++ T) : A = B ∧ S = T := by
  induction A generalizing B with
  | nil =>
    cases B with
    | nil => exact ⟨rfl, h⟩
    | cons b B =>
      rcases hS with rfl | ⟨s, rfl⟩
      · cases h
      · injection h with h1 h2
        exact absurd h1.symm (hB b (by simp))
  | cons a A ih =>
    cases B with
    | nil =>
      rcases hT with rfl | ⟨t, rfl⟩
      · cases h
      · injection h with h1 h2
        exact absurd h1 (hA a (by simp))
    | cons b B =>
      injection h with h1 h2
      obtain ⟨e1, e2⟩ := ih (B := B) (fun x hx => hA x (by simp [hx])) (fun x hx => hB x (by simp [hx])) h2
      exact ⟨by rw [h1, e1], e2⟩
theorem txtQ_inj {x y : Rat} (h : txtQ x = txtQ y) : x = y := by
  have hs (z : Rat) : (if z.den = 1 then [] else 47 :: txt z.den) = [] ∨ ∃ s, (if z.den = 1 then [] else 47 :: txt z.den) = 47 :: s := by
    by_cases hd : z.den = 1
    · rw [if_pos hd]; exact .inl rfl
    · rw [if_neg hd]; exact .inr ⟨_, rfl⟩
  obtain ⟨e1, e2⟩ := part_inj (fun _ => txt_no) (fun _ => txt_no) (hs x) (hs y) h
  refine Rat.ext (txt_inj.1 e1) ?_
  by_cases h1 : x.den = 1 <;> by_cases h2 : y.den = 1
  · rw [h1, h2]
  · rw [if_pos h1, if_neg h2] at e2; cases e2
  · rw [if_neg h1, if_pos h2] at e2; cases e2
  · rw [if_neg h1, if_neg h2] at e2
    injection e2 with _ e2
    exact Int.ofNat.inj (txt_inj.1 e2)
theorem txtX_inj {a b : XR} (h : txtX a = txtX b) : a = b := by
  have no (y : Rat) : ¬ (105 : Int) ∈ txtQ y := fun h => by
    rcases txtQ_mem h with h | h | h
    · exact absurd h (by decide)
    · exact absurd h (by decide)
    · unfold isDig at h; omega
  have l1 : (105 : Int) ∈ txtX .lo := by decide
  have l2 : (105 : Int) ∈ txtX .hi := by decide
  rcases a with _ | x | _ <;> rcases b with _ | y | _
  · rfl
  · rw [h] at l1; exact absurd l1 (no y)
  · exact absurd h (by decide)
  · rw [← h] at l1; exact absurd l1 (no x)
  · rw [txtQ_inj h]
  · rw [← h] at l2; exact absurd l2 (no x)
  · exact absurd h (by decide)
  · rw [h] at l2; exact absurd l2 (no y)
  · rfl
instance : DecidableEq XR := fun a b => decidable_of_iff (cx a b = 0) cx_eq
theorem txtX_eq {a b : XR} : ((bsOf (txtX a)).toList == (bsOf (txtX b)).toList) = decide (a = b) := by
  rw [seql, chs_bsOf (txtX_bd a), chs_bsOf (txtX_bd b)]
  exact decide_eq_decide.2 ⟨txtX_inj, fun h => by rw [h]⟩
variable {pn qn pn' qn' : Bool} {pl ql pl' ql' : List Int} {k k' : Int} {H : Heap} {K : Value → Heap → Prop}
theorem slash_app {a b : Int} : bsOf (txt a) ++ (⟨#[47]⟩ ++ bsOf (txt b)) = bsOf (txt a ++ 47 :: txt b) := by
  have e : (⟨#[47]⟩ : ByteArray) = bsOf [47] := rfl
  have h47 : ∀ x ∈ [(47 : Int)], 0 ≤ x ∧ x < 256 := by decide
  rw [e, bsOf_app h47 (txt_bd b), bsOf_app (txt_bd a)]
  · rfl
  · intro x hx
    rcases List.mem_append.1 hx with h | h
    · exact h47 x h
    · exact txt_bd b x h
theorem slash_app2 {a b : Int} : bsOf (txt a) ++ ⟨#[47]⟩ ++ bsOf (txt b) = bsOf (txt a ++ 47 :: txt b) := by
  rw [ByteArray.append_assoc, slash_app]
theorem p81 (h1 : Lr pl) (h2 : Lr ql) (hq : lq (dq pn pl qn ql) ≤ 2 ^ 20) : PC Try.prog 52 [R4 pn pl qn ql] (.string (bsOf (txtQ (dq pn pl qn ql)))) := by
  refine PC.of (.cons pu_r4 .nil) (.ground rfl) fun N hN => ?_
  have q1 := p166 (pn := pn) (qn := qn) h1.lb h2.lb (by have := h1.2; omega) (by have := h2.2; omega)
  generalize dq pn pl qn ql = x at *
  have u1 := lq_num x
  have u2 := lq_den x
  have t1 := txt_len (z := x.num) (K := 2 ^ 20) (by omega)
  have t2 := txt_len (z := (x.den : Int)) (K := 2 ^ 20) (by omega)
  have s1 := bsOf_size (txt_bd x.num)
  have s2 := bsOf_size (txt_bd x.den)
  have s3 : (⟨#[47]⟩ : ByteArray).size = 1 := rfl
  have s4 : ((⟨#[47]⟩ : ByteArray) ++ bsOf (txt x.den)).size = 1 + (bsOf (txt x.den)).size := ByteArray.size_append
  unfold txtQ
  by_cases hd : x.den = 1
  · have c : sg ((x.den : Int) - 1) = 0 := sg_eq0.2 (by omega)
    rw [if_pos hd, List.append_nil]
    refine ACalls.of_code T.hm (n := 20) Try.func52 rfl rfl rfl rfl ?_; simp only [List.replicate_succ, List.replicate_zero, List.cons_append, List.nil_append]
    simp (maxSteps := 1000000) (disch := first | exact sd | fail) only [go_sem, Nat.reduceAdd, Nat.reduceSub, Nat.reduceLeDiff, ↓reduceIte, decide_eq_true_eq, if_true, if_false, Bool.false_eq_true, Int.lt_irrefl, implies_true, true_and, and_true, eq_self, and_self, beq_self_eq_true, aw_plan (id := 3) plW5_81_3, plW5_81_3]
    refine PC.step (q1) fun m1 j1 => ?_
    try simp only [Heap.next_push, Heap.next_set, Heap.next_kill, next_bump, next_E0] at j1
    simp (maxSteps := 1000000) (disch := first | exact sd | fail) only [go_sem, Nat.reduceAdd, Nat.reduceSub, Nat.reduceLeDiff, ↓reduceIte, decide_eq_true_eq, if_true, if_false, Bool.false_eq_true, Int.lt_irrefl, implies_true, true_and, and_true, eq_self, and_self, beq_self_eq_true, aw_plan (id := 3) plW5_81_3, plW5_81_3]
    refine PC.step (p58z (by omega)) fun m2 j2 => ?_
    try simp only [Heap.next_push, Heap.next_set, Heap.next_kill, next_bump, next_E0] at j2
    simp (maxSteps := 1000000) (disch := first | exact sd | fail) only [go_sem, Nat.reduceAdd, Nat.reduceSub, Nat.reduceLeDiff, ↓reduceIte, decide_eq_true_eq, if_true, if_false, Bool.false_eq_true, Int.lt_irrefl, implies_true, true_and, and_true, eq_self, and_self, beq_self_eq_true, aw_plan (id := 3) plW5_81_3, plW5_81_3]
    refine PC.step (p165) fun m3 j3 => ?_
    try simp only [Heap.next_push, Heap.next_set, Heap.next_kill, next_bump, next_E0] at j3
    simp (maxSteps := 1000000) (disch := first | exact sd | fail) only [go_sem, Nat.reduceAdd, Nat.reduceSub, Nat.reduceLeDiff, ↓reduceIte, decide_eq_true_eq, if_true, if_false, Bool.false_eq_true, Int.lt_irrefl, implies_true, true_and, and_true, eq_self, and_self, beq_self_eq_true, aw_plan (id := 3) plW5_81_3, plW5_81_3]
    refine PC.step (p55 (lb_z (by omega)) (lb_z (by rw [ln_one]; omega))) fun m4 j4 => ?_
    try simp only [Heap.next_push, Heap.next_set, Heap.next_kill, next_bump, next_E0] at j4
    rw [den_z, den_z]
    simp (maxSteps := 1000000) (disch := first | exact sd | fail) only [go_sem, Nat.reduceAdd, Nat.reduceSub, Nat.reduceLeDiff, ↓reduceIte, decide_eq_true_eq, if_true, if_false, Bool.false_eq_true, Int.lt_irrefl, implies_true, true_and, and_true, eq_self, and_self, beq_self_eq_true, aw_plan (id := 3) plW5_81_3, plW5_81_3, c, ne_eq, not_true_eq_false]
    exact .rfl
  · have c : ¬ sg ((x.den : Int) - 1) = 0 := fun h => hd (by have := sg_eq0.1 h; omega)
    rw [if_neg hd]
    have g1 : (⟨#[47]⟩ : ByteArray).size + (bsOf (txt x.den)).size ≤ 9223372036854775807 := by omega
    have g2 : (bsOf (txt x.num)).size + ((⟨#[47]⟩ : ByteArray) ++ bsOf (txt x.den)).size ≤ 9223372036854775807 := by omega
    refine ACalls.of_code T.hm (n := 20) Try.func52 rfl rfl rfl rfl ?_; simp only [List.replicate_succ, List.replicate_zero, List.cons_append, List.nil_append]
    simp (maxSteps := 1000000) (disch := first | exact sd | fail) only [go_sem, Nat.reduceAdd, Nat.reduceSub, Nat.reduceLeDiff, ↓reduceIte, decide_eq_true_eq, if_true, if_false, Bool.false_eq_true, Int.lt_irrefl, implies_true, true_and, and_true, eq_self, and_self, beq_self_eq_true, aw_plan (id := 3) plW5_81_3, plW5_81_3]
    refine PC.step (q1) fun m1 j1 => ?_
    try simp only [Heap.next_push, Heap.next_set, Heap.next_kill, next_bump, next_E0] at j1
    simp (maxSteps := 1000000) (disch := first | exact sd | fail) only [go_sem, Nat.reduceAdd, Nat.reduceSub, Nat.reduceLeDiff, ↓reduceIte, decide_eq_true_eq, if_true, if_false, Bool.false_eq_true, Int.lt_irrefl, implies_true, true_and, and_true, eq_self, and_self, beq_self_eq_true, aw_plan (id := 3) plW5_81_3, plW5_81_3]
    refine PC.step (p58z (by omega)) fun m2 j2 => ?_
    try simp only [Heap.next_push, Heap.next_set, Heap.next_kill, next_bump, next_E0] at j2
    simp (maxSteps := 1000000) (disch := first | exact sd | fail) only [go_sem, Nat.reduceAdd, Nat.reduceSub, Nat.reduceLeDiff, ↓reduceIte, decide_eq_true_eq, if_true, if_false, Bool.false_eq_true, Int.lt_irrefl, implies_true, true_and, and_true, eq_self, and_self, beq_self_eq_true, aw_plan (id := 3) plW5_81_3, plW5_81_3]
    refine PC.step (p165) fun m3 j3 => ?_
    try simp only [Heap.next_push, Heap.next_set, Heap.next_kill, next_bump, next_E0] at j3
    simp (maxSteps := 1000000) (disch := first | exact sd | fail) only [go_sem, Nat.reduceAdd, Nat.reduceSub, Nat.reduceLeDiff, ↓reduceIte, decide_eq_true_eq, if_true, if_false, Bool.false_eq_true, Int.lt_irrefl, implies_true, true_and, and_true, eq_self, and_self, beq_self_eq_true, aw_plan (id := 3) plW5_81_3, plW5_81_3]
    refine PC.step (p55 (lb_z (by omega)) (lb_z (by rw [ln_one]; omega))) fun m4 j4 => ?_
    try simp only [Heap.next_push, Heap.next_set, Heap.next_kill, next_bump, next_E0] at j4
    rw [den_z, den_z]
    simp (maxSteps := 1000000) (disch := first | exact sd | fail) only [go_sem, Nat.reduceAdd, Nat.reduceSub, Nat.reduceLeDiff, ↓reduceIte, decide_eq_true_eq, if_true, if_false, Bool.false_eq_true, Int.lt_irrefl, implies_true, true_and, and_true, eq_self, and_self, beq_self_eq_true, aw_plan (id := 3) plW5_81_3, plW5_81_3, c, ne_eq, not_false_eq_true]
    refine PC.step (p58z (by omega)) fun m5 j5 => ?_
    try simp only [Heap.next_push, Heap.next_set, Heap.next_kill, next_bump, next_E0] at j5
    simp (maxSteps := 1000000) (disch := first | exact sd | fail) only [go_sem, Nat.reduceAdd, Nat.reduceSub, Nat.reduceLeDiff, ↓reduceIte, decide_eq_true_eq, if_true, if_false, Bool.false_eq_true, Int.lt_irrefl, implies_true, true_and, and_true, eq_self, and_self, beq_self_eq_true, aw_plan (id := 3) plW5_81_3, plW5_81_3, bin_sadd g1, bin_sadd g2]
    rw [slash_app]
    exact .rfl
theorem p59z {z : Int} (h : ln z ≤ 2 ^ 30) : PC Try.prog 90 [Zn z] (.string (bsOf (txt z))) := (p59 (lb_z (by omega)) h).ok (by rw [den_z])
theorem p82 (h1 : Lr pl) (h2 : Lr ql) (hq : lq (dq pn pl qn ql) ≤ 2 ^ 20) : PC Try.prog 53 [R4 pn pl qn ql] (.string (bsOf (txtQ (dq pn pl qn ql)))) := by
  refine PC.of (.cons pu_r4 .nil) (.ground rfl) fun N hN => ?_
  have q1 := p171 (pn := pn) (qn := qn) h1.lb h2.lb (by have := h1.2; omega) (by have := h2.2; omega)
  generalize dq pn pl qn ql = x at *
  have u1 := lq_num x
  have u2 := lq_den x
  have t1 := txt_len (z := x.num) (K := 2 ^ 20) (by omega)
  have t2 := txt_len (z := (x.den : Int)) (K := 2 ^ 20) (by omega)
  have s1 := bsOf_size (txt_bd x.num)
  have s2 := bsOf_size (txt_bd x.den)
  have s3 : (⟨#[47]⟩ : ByteArray).size = 1 := rfl
  have s4 : (bsOf (txt x.num) ++ (⟨#[47]⟩ : ByteArray)).size = (bsOf (txt x.num)).size + 1 := ByteArray.size_append
  unfold txtQ
  have q2 := p44 (n := sgn x.den) (m := sgn 1) (l := lmb x.den) (k := lmb 1) (lb_z (by omega)) (lb_z (by rw [ln_one]; omega))
  by_cases hd : x.den = 1
  · have c : decide (sgn (x.den : Int) = sgn 1 ∧ lmb (x.den : Int) = lmb 1) = true := by rw [hd]; simp
    rw [c] at q2
    rw [if_pos hd, List.append_nil]
    refine ACalls.of_code T.hm (n := 19) Try.func53 rfl rfl rfl rfl ?_; simp only [List.replicate_succ, List.replicate_zero, List.cons_append, List.nil_append]
    simp (maxSteps := 1000000) (disch := first | exact sd | fail) only [go_sem, Nat.reduceAdd, Nat.reduceSub, Nat.reduceLeDiff, ↓reduceIte, decide_eq_true_eq, if_true, if_false, Bool.false_eq_true, Int.lt_irrefl, implies_true, true_and, and_true, eq_self, and_self, beq_self_eq_true, aw_plan (id := 2) plW5_82_2, plW5_82_2, aw_plan (id := 4) plW5_82_4, plW5_82_4]
    refine PC.step (q1) fun m1 j1 => ?_
    try simp only [Heap.next_push, Heap.next_set, Heap.next_kill, next_bump, next_E0] at j1
    simp (maxSteps := 1000000) (disch := first | exact sd | fail) only [go_sem, Nat.reduceAdd, Nat.reduceSub, Nat.reduceLeDiff, ↓reduceIte, decide_eq_true_eq, if_true, if_false, Bool.false_eq_true, Int.lt_irrefl, implies_true, true_and, and_true, eq_self, and_self, beq_self_eq_true, aw_plan (id := 2) plW5_82_2, plW5_82_2, aw_plan (id := 4) plW5_82_4, plW5_82_4]
    refine PC.step (p53 (x := 1) (by omega)) fun m2 j2 => ?_
    try simp only [Heap.next_push, Heap.next_set, Heap.next_kill, next_bump, next_E0] at j2
    simp (maxSteps := 1000000) (disch := first | exact sd | fail) only [go_sem, Nat.reduceAdd, Nat.reduceSub, Nat.reduceLeDiff, ↓reduceIte, decide_eq_true_eq, if_true, if_false, Bool.false_eq_true, Int.lt_irrefl, implies_true, true_and, and_true, eq_self, and_self, beq_self_eq_true, aw_plan (id := 2) plW5_82_2, plW5_82_2, aw_plan (id := 4) plW5_82_4, plW5_82_4]
    refine PC.step (q2) fun m3 j3 => ?_
    try simp only [Heap.next_push, Heap.next_set, Heap.next_kill, next_bump, next_E0] at j3
    simp (maxSteps := 1000000) (disch := first | exact sd | fail) only [go_sem, Nat.reduceAdd, Nat.reduceSub, Nat.reduceLeDiff, ↓reduceIte, decide_eq_true_eq, if_true, if_false, Bool.false_eq_true, Int.lt_irrefl, implies_true, true_and, and_true, eq_self, and_self, beq_self_eq_true, aw_plan (id := 2) plW5_82_2, plW5_82_2, aw_plan (id := 4) plW5_82_4, plW5_82_4]
    refine PC.step (p59z (by omega)) fun m4 j4 => ?_
    try simp only [Heap.next_push, Heap.next_set, Heap.next_kill, next_bump, next_E0] at j4
    simp (maxSteps := 1000000) (disch := first | exact sd | fail) only [go_sem, Nat.reduceAdd, Nat.reduceSub, Nat.reduceLeDiff, ↓reduceIte, decide_eq_true_eq, if_true, if_false, Bool.false_eq_true, Int.lt_irrefl, implies_true, true_and, and_true, eq_self, and_self, beq_self_eq_true, aw_plan (id := 2) plW5_82_2, plW5_82_2, aw_plan (id := 4) plW5_82_4, plW5_82_4]
    exact .rfl
  · have c : decide (sgn (x.den : Int) = sgn 1 ∧ lmb (x.den : Int) = lmb 1) = false := by
      rw [decide_eq_false_iff_not]
      rintro ⟨_, h⟩
      have e := val_z (x.den : Int)
      rw [h, val_z] at e
      exact hd (by omega)
    rw [c] at q2
    rw [if_neg hd]
    have g1 : (bsOf (txt x.num)).size + (⟨#[47]⟩ : ByteArray).size ≤ 9223372036854775807 := by omega
    have g2 : (bsOf (txt x.num) ++ (⟨#[47]⟩ : ByteArray)).size + (bsOf (txt x.den)).size ≤ 9223372036854775807 := by omega
    refine ACalls.of_code T.hm (n := 19) Try.func53 rfl rfl rfl rfl ?_; simp only [List.replicate_succ, List.replicate_zero, List.cons_append, List.nil_append]
    simp (maxSteps := 1000000) (disch := first | exact sd | fail) only [go_sem, Nat.reduceAdd, Nat.reduceSub, Nat.reduceLeDiff, ↓reduceIte, decide_eq_true_eq, if_true, if_false, Bool.false_eq_true, Int.lt_irrefl, implies_true, true_and, and_true, eq_self, and_self, beq_self_eq_true, aw_plan (id := 2) plW5_82_2, plW5_82_2, aw_plan (id := 4) plW5_82_4, plW5_82_4]
    refine PC.step (q1) fun m1 j1 => ?_
    try simp only [Heap.next_push, Heap.next_set, Heap.next_kill, next_bump, next_E0] at j1
    simp (maxSteps := 1000000) (disch := first | exact sd | fail) only [go_sem, Nat.reduceAdd, Nat.reduceSub, Nat.reduceLeDiff, ↓reduceIte, decide_eq_true_eq, if_true, if_false, Bool.false_eq_true, Int.lt_irrefl, implies_true, true_and, and_true, eq_self, and_self, beq_self_eq_true, aw_plan (id := 2) plW5_82_2, plW5_82_2, aw_plan (id := 4) plW5_82_4, plW5_82_4]
    refine PC.step (p53 (x := 1) (by omega)) fun m2 j2 => ?_
    try simp only [Heap.next_push, Heap.next_set, Heap.next_kill, next_bump, next_E0] at j2
    simp (maxSteps := 1000000) (disch := first | exact sd | fail) only [go_sem, Nat.reduceAdd, Nat.reduceSub, Nat.reduceLeDiff, ↓reduceIte, decide_eq_true_eq, if_true, if_false, Bool.false_eq_true, Int.lt_irrefl, implies_true, true_and, and_true, eq_self, and_self, beq_self_eq_true, aw_plan (id := 2) plW5_82_2, plW5_82_2, aw_plan (id := 4) plW5_82_4, plW5_82_4]
    refine PC.step (q2) fun m3 j3 => ?_
    try simp only [Heap.next_push, Heap.next_set, Heap.next_kill, next_bump, next_E0] at j3
    simp (maxSteps := 1000000) (disch := first | exact sd | fail) only [go_sem, Nat.reduceAdd, Nat.reduceSub, Nat.reduceLeDiff, ↓reduceIte, decide_eq_true_eq, if_true, if_false, Bool.false_eq_true, Int.lt_irrefl, implies_true, true_and, and_true, eq_self, and_self, beq_self_eq_true, aw_plan (id := 2) plW5_82_2, plW5_82_2, aw_plan (id := 4) plW5_82_4, plW5_82_4]
    refine PC.step (p59z (by omega)) fun m4 j4 => ?_
    try simp only [Heap.next_push, Heap.next_set, Heap.next_kill, next_bump, next_E0] at j4
    simp (maxSteps := 1000000) (disch := first | exact sd | fail) only [go_sem, Nat.reduceAdd, Nat.reduceSub, Nat.reduceLeDiff, ↓reduceIte, decide_eq_true_eq, if_true, if_false, Bool.false_eq_true, Int.lt_irrefl, implies_true, true_and, and_true, eq_self, and_self, beq_self_eq_true, aw_plan (id := 2) plW5_82_2, plW5_82_2, aw_plan (id := 4) plW5_82_4, plW5_82_4, bin_sadd g1]
    refine PC.step (p59z (by omega)) fun m5 j5 => ?_
    try simp only [Heap.next_push, Heap.next_set, Heap.next_kill, next_bump, next_E0] at j5
    simp (maxSteps := 1000000) (disch := first | exact sd | fail) only [go_sem, Nat.reduceAdd, Nat.reduceSub, Nat.reduceLeDiff, ↓reduceIte, decide_eq_true_eq, if_true, if_false, Bool.false_eq_true, Int.lt_irrefl, implies_true, true_and, and_true, eq_self, and_self, beq_self_eq_true, aw_plan (id := 2) plW5_82_2, plW5_82_2, aw_plan (id := 4) plW5_82_4, plW5_82_4, bin_sadd g1, bin_sadd g2]
    rw [slash_app2]
    exact .rfl
end Go.Abs
