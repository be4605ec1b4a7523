/- The order of quotients with two ends, plainly. -/
import Derived.Test.YthiaciajkjdcnaaW3
set_option linter.unusedVariables false
set_option linter.unusedSimpArgs false
namespace Go.Abs
open Go Go.Proofs
set_option maxRecDepth 100000
set_option maxHeartbeats 4000000
theorem cq_lt {x y : Rat} (h : x < y) : cq x y = -1 := by have := cq_neg.2 h; have := cq_bd x y; omega
theorem cq_gt {x y : Rat} (h : y < x) : cq x y = 1 := by have := cq_pos.2 h; have := cq_bd x y; omega
theorem cq_le {x y : Rat} : cq x y ≤ 0 ↔ x ≤ y := by
  rw [← Rat.not_lt, ← cq_pos]; omega
theorem cq_tri (x y : Rat) : (x < y ∧ cq x y = -1) ∨ (x = y ∧ cq x y = 0) ∨ (y < x ∧ cq x y = 1) := by
  by_cases h : x = y
  · exact .inr (.inl ⟨h, cq_eq.2 h⟩)
  · by_cases h2 : x < y
    · exact .inl ⟨h2, cq_lt h2⟩
    · have h3 : y < x := Rat.lt_of_le_of_ne (Rat.not_lt.1 h2) fun e => h e.symm
      exact .inr (.inr ⟨h3, cq_gt h3⟩)
theorem cq_add (x y z : Rat) : cq (x + z) (y + z) = cq x y := by
  rcases cq_tri x y with ⟨h, e⟩ | ⟨h, e⟩ | ⟨h, e⟩
  · rw [e]; exact cq_lt (Rat.add_lt_add_right.2 h)
  · rw [e, h]; exact cq_self _
  · rw [e]; exact cq_gt (Rat.add_lt_add_right.2 h)
theorem cx_fin {x y : Rat} : cx (.fin x) (.fin y) = cq x y := rfl
theorem cx_ll : cx .lo .lo = 0 := rfl
theorem cx_hh : cx .hi .hi = 0 := rfl
theorem cx_lh : cx .lo .hi = -1 := rfl
theorem cx_hl : cx .hi .lo = 1 := rfl
theorem cx_lf {x : Rat} : cx .lo (.fin x) = -1 := rfl
theorem cx_fl {x : Rat} : cx (.fin x) .lo = 1 := rfl
theorem cx_hf {x : Rat} : cx .hi (.fin x) = 1 := rfl
theorem cx_fh {x : Rat} : cx (.fin x) .hi = -1 := rfl
theorem cx_swap (a b : XR) : cx b a = -cx a b := by
  rcases a with _ | x | _ <;> rcases b with _ | y | _ <;> first | rfl | exact cq_swap x y
theorem cx_self (a : XR) : cx a a = 0 := by
  rcases a with _ | x | _ <;> first | rfl | exact cq_self x
theorem cx_eq {a b : XR} : cx a b = 0 ↔ a = b := by
  refine ⟨fun h => ?_, fun h => by rw [h, cx_self]⟩
  rcases a with _ | x | _ <;> rcases b with _ | y | _ <;> first | rfl | (have := cq_eq.1 h; subst this; rfl) | (simp only [cx_ll, cx_lf, cx_lh, cx_fl, cx_fh, cx_hl, cx_hf, cx_hh] at h; omega)
theorem cx_trans {a b c : XR} (h1 : cx a b ≤ 0) (h2 : cx b c ≤ 0) : cx a c ≤ 0 := by
  rcases a with _ | x | _ <;> rcases b with _ | y | _ <;> rcases c with _ | z | _ <;> first | exact cq_le.2 (Rat.le_trans (cq_le.1 h1) (cq_le.1 h2)) | (simp only [cx_ll, cx_lf, cx_lh, cx_fl, cx_fh, cx_hl, cx_hf, cx_hh] at h1 h2 ⊢; omega) | (simp only [cx_ll, cx_lf, cx_lh, cx_fl, cx_fh, cx_hl, cx_hf, cx_hh] at h1 ⊢; omega) | (simp only [cx_ll, cx_lf, cx_lh, cx_fl, cx_fh, cx_hl, cx_hf, cx_hh] at h2 ⊢; omega) | (simp only [cx_ll, cx_lf, cx_lh, cx_fl, cx_fh, cx_hl, cx_hf, cx_hh] at h1; omega) | (simp only [cx_ll, cx_lf, cx_lh, cx_fl, cx_fh, cx_hl, cx_hf, cx_hh] at h2; omega) | (simp only [cx_ll, cx_lf, cx_lh, cx_fl, cx_fh, cx_hl, cx_hf, cx_hh]; omega)
theorem cx_bd (a b : XR) : -1 ≤ cx a b ∧ cx a b ≤ 1 := by
  rcases a with _ | x | _ <;> rcases b with _ | y | _ <;> first | exact cq_bd x y | (simp only [cx_ll, cx_lf, cx_lh, cx_fl, cx_fh, cx_hl, cx_hf, cx_hh]; omega)
theorem cx_lo (a : XR) : cx .lo a ≤ 0 := by rcases a with _ | x | _ <;> simp only [cx_ll, cx_lf, cx_lh, cx_fl, cx_fh, cx_hl, cx_hf, cx_hh] <;> omega
theorem cx_hi (a : XR) : cx a .hi ≤ 0 := by rcases a with _ | x | _ <;> simp only [cx_ll, cx_lf, cx_lh, cx_fl, cx_fh, cx_hl, cx_hf, cx_hh] <;> omega
theorem cx_add (a b : XR) (z : Rat) : cx (adX a z) (adX b z) = cx a b := by
  rcases a with _ | x | _ <;> rcases b with _ | y | _ <;> first | rfl | exact cq_add x y z
theorem mx_or (a b : XR) : mxX a b = a ∨ mxX a b = b := by unfold mxX; split <;> simp
theorem mn_or (a b : XR) : mnX a b = a ∨ mnX a b = b := by unfold mnX; split <;> simp
theorem mx_l (a b : XR) : cx a (mxX a b) ≤ 0 := by
  unfold mxX; split
  · omega
  · rw [cx_self]; omega
theorem mx_r (a b : XR) : cx b (mxX a b) ≤ 0 := by
  unfold mxX; split
  · rw [cx_self]; omega
  · rw [cx_swap]; omega
theorem mn_l (a b : XR) : cx (mnX a b) a ≤ 0 := by
  unfold mnX; split
  · rw [cx_swap]; omega
  · rw [cx_self]; omega
theorem mn_r (a b : XR) : cx (mnX a b) b ≤ 0 := by
  unfold mnX; split
  · rw [cx_self]; omega
  · omega
theorem lx_mx (a b : XR) {K : Nat} (ha : lx a ≤ K) (hb : lx b ≤ K) : lx (mxX a b) ≤ K := by rcases mx_or a b with e | e <;> rw [e] <;> assumption
theorem lx_mn (a b : XR) {K : Nat} (ha : lx a ≤ K) (hb : lx b ≤ K) : lx (mnX a b) ≤ K := by rcases mn_or a b with e | e <;> rw [e] <;> assumption
theorem lx_ad (a : XR) (z : Rat) : lx (adX a z) ≤ lx a + lq z + 1 := by
  rcases a with _ | x | _
  · show lq 0 ≤ lq 0 + _ + 1; omega
  · exact lq_add x z
  · show lq 0 ≤ lq 0 + _ + 1; omega
/-- The greatest, the least of many, from either side. -/
def fMax (x : Nat → XR) (a : XR) : Nat → XR
  | 0 => a
  | k + 1 => mxX (fMax x a k) (x k)
def gMax (x : Nat → XR) (a : XR) : Nat → XR
  | 0 => a
  | k + 1 => mxX (x k) (gMax x a k)
def fMin (x : Nat → XR) (a : XR) : Nat → XR
  | 0 => a
  | k + 1 => mnX (fMin x a k) (x k)
def gMin (x : Nat → XR) (a : XR) : Nat → XR
  | 0 => a
  | k + 1 => mnX (x k) (gMin x a k)
variable {x y : Nat → XR} {a b : XR} {n : Nat}
theorem fMax_ub : ∀ {k : Nat}, cx a (fMax x a k) ≤ 0 ∧ ∀ i, i < k → cx (x i) (fMax x a k) ≤ 0
  | 0 => ⟨by rw [fMax, cx_self]; omega, fun i hi => by omega⟩
  | k + 1 => by
    obtain ⟨h1, h2⟩ := fMax_ub (k := k)
    refine ⟨cx_trans h1 (mx_l _ _), fun i hi => ?_⟩
    rcases Nat.lt_or_ge i k with h | h
    · exact cx_trans (h2 i h) (mx_l _ _)
    · have : i = k := by omega
      subst this; exact mx_r _ _
theorem gMax_ub : ∀ {k : Nat}, cx a (gMax x a k) ≤ 0 ∧ ∀ i, i < k → cx (x i) (gMax x a k) ≤ 0
  | 0 => ⟨by rw [gMax, cx_self]; omega, fun i hi => by omega⟩
  | k + 1 => by
    obtain ⟨h1, h2⟩ := gMax_ub (k := k)
    refine ⟨cx_trans h1 (mx_r _ _), fun i hi => ?_⟩
    rcases Nat.lt_or_ge i k with h | h
    · exact cx_trans (h2 i h) (mx_r _ _)
    · have : i = k := by omega
      subst this; exact mx_l _ _
theorem fMin_lb : ∀ {k : Nat}, cx (fMin x a k) a ≤ 0 ∧ ∀ i, i < k → cx (fMin x a k) (x i) ≤ 0
  | 0 => ⟨by rw [fMin, cx_self]; omega, fun i hi => by omega⟩
  | k + 1 => by
    obtain ⟨h1, h2⟩ := fMin_lb (k := k)
    refine ⟨cx_trans (mn_l _ _) h1, fun i hi => ?_⟩
    rcases Nat.lt_or_ge i k with h | h
    · exact cx_trans (mn_l _ _) (h2 i h)
    · have : i = k := by omega
      subst this; exact mn_r _ _
theorem gMin_lb : ∀ {k : Nat}, cx (gMin x a k) a ≤ 0 ∧ ∀ i, i < k → cx (gMin x a k) (x i) ≤ 0
  | 0 => ⟨by rw [gMin, cx_self]; omega, fun i hi => by omega⟩
  | k + 1 => by
    obtain ⟨h1, h2⟩ := gMin_lb (k := k)
    refine ⟨cx_trans (mn_r _ _) h1, fun i hi => ?_⟩
    rcases Nat.lt_or_ge i k with h | h
    · exact cx_trans (mn_r _ _) (h2 i h)
    · have : i = k := by omega
      subst this; exact mn_l _ _
theorem fMax_mem : ∀ {k : Nat}, fMax x a k = a ∨ ∃ i, i < k ∧ fMax x a k = x i
  | 0 => .inl rfl
  | k + 1 => by
    have ih := fMax_mem (k := k)
    have ho : fMax x a (k + 1) = fMax x a k ∨ fMax x a (k + 1) = x k := by rcases mx_or (fMax x a k) (x k) with e | e <;> first | exact .inl e | exact .inr e
    rcases ho with e | e
    · rw [e]
      rcases ih with h | ⟨i, h1, h2⟩
      · exact .inl h
      · exact .inr ⟨i, by omega, h2⟩
    · exact .inr ⟨k, by omega, e⟩
theorem gMax_mem : ∀ {k : Nat}, gMax x a k = a ∨ ∃ i, i < k ∧ gMax x a k = x i
  | 0 => .inl rfl
  | k + 1 => by
    have ih := gMax_mem (k := k)
    have ho : gMax x a (k + 1) = gMax x a k ∨ gMax x a (k + 1) = x k := by rcases mx_or (x k) (gMax x a k) with e | e <;> first | exact .inl e | exact .inr e
    rcases ho with e | e
    · rw [e]
      rcases ih with h | ⟨i, h1, h2⟩
      · exact .inl h
      · exact .inr ⟨i, by omega, h2⟩
    · exact .inr ⟨k, by omega, e⟩
theorem fMin_mem : ∀ {k : Nat}, fMin x a k = a ∨ ∃ i, i < k ∧ fMin x a k = x i
  | 0 => .inl rfl
  | k + 1 => by
    have ih := fMin_mem (k := k)
    have ho : fMin x a (k + 1) = fMin x a k ∨ fMin x a (k + 1) = x k := by rcases mn_or (fMin x a k) (x k) with e | e <;> first | exact .inl e | exact .inr e
    rcases ho with e | e
    · rw [e]
      rcases ih with h | ⟨i, h1, h2⟩
      · exact .inl h
      · exact .inr ⟨i, by omega, h2⟩
    · exact .inr ⟨k, by omega, e⟩
theorem gMin_mem : ∀ {k : Nat}, gMin x a k = a ∨ ∃ i, i < k ∧ gMin x a k = x i
  | 0 => .inl rfl
  | k + 1 => by
    have ih := gMin_mem (k := k)
    have ho : gMin x a (k + 1) = gMin x a k ∨ gMin x a (k + 1) = x k := by rcases mn_or (x k) (gMin x a k) with e | e <;> first | exact .inl e | exact .inr e
    rcases ho with e | e
    · rw [e]
      rcases ih with h | ⟨i, h1, h2⟩
      · exact .inl h
      · exact .inr ⟨i, by omega, h2⟩
    · exact .inr ⟨k, by omega, e⟩
theorem anti {a b : XR} (h1 : cx a b ≤ 0) (h2 : cx b a ≤ 0) : a = b := cx_eq.1 (by have := cx_swap a b; omega)
theorem max_one (hn : 0 < n) : fMax x (x 0) n = gMax (fun i => x (n - 1 - i)) (x (n - 1)) n := by
  obtain ⟨f1, f2⟩ := fMax_ub (x := x) (a := x 0) (k := n)
  obtain ⟨g1, g2⟩ := gMax_ub (x := fun i => x (n - 1 - i)) (a := x (n - 1)) (k := n)
  have g3 (i : Nat) (hi : i < n) : cx (x i) (gMax (fun i => x (n - 1 - i)) (x (n - 1)) n) ≤ 0 := by
    have := g2 (n - 1 - i) (by omega)
    rwa [show n - 1 - (n - 1 - i) = i by omega] at this
  refine anti ?_ ?_
  · rcases fMax_mem (x := x) (a := x 0) (k := n) with e | ⟨i, hi, e⟩
    · rw [e]; exact g3 0 hn
    · rw [e]; exact g3 i hi
  · rcases gMax_mem (x := fun i => x (n - 1 - i)) (a := x (n - 1)) (k := n) with e | ⟨i, hi, e⟩
    · rw [e]; exact f2 (n - 1) (by omega)
    · rw [e]; exact f2 (n - 1 - i) (by omega)
theorem min_one (hn : 0 < n) : fMin x (x 0) n = gMin (fun i => x (n - 1 - i)) (x (n - 1)) n := by
  obtain ⟨f1, f2⟩ := fMin_lb (x := x) (a := x 0) (k := n)
  obtain ⟨g1, g2⟩ := gMin_lb (x := fun i => x (n - 1 - i)) (a := x (n - 1)) (k := n)
  have g3 (i : Nat) (hi : i < n) : cx (gMin (fun i => x (n - 1 - i)) (x (n - 1)) n) (x i) ≤ 0 := by
    have := g2 (n - 1 - i) (by omega)
    rwa [show n - 1 - (n - 1 - i) = i by omega] at this
  refine anti ?_ ?_
  · rcases gMin_mem (x := fun i => x (n - 1 - i)) (a := x (n - 1)) (k := n) with e | ⟨i, hi, e⟩
    · rw [e]; exact f2 (n - 1) (by omega)
    · rw [e]; exact f2 (n - 1 - i) (by omega)
  · rcases fMin_mem (x := x) (a := x 0) (k := n) with e | ⟨i, hi, e⟩
    · rw [e]; exact g3 0 hn
    · rw [e]; exact g3 i hi
theorem lx_fMax {K : Nat} (ha : lx a ≤ K) : ∀ {k : Nat}, (∀ i, i < k → lx (x i) ≤ K) → lx (fMax x a k) ≤ K
  | 0, _ => ha
  | k + 1, h => lx_mx _ _ (lx_fMax ha fun i hi => h i (by omega)) (h k (by omega))
theorem lx_gMax {K : Nat} (ha : lx a ≤ K) : ∀ {k : Nat}, (∀ i, i < k → lx (x i) ≤ K) → lx (gMax x a k) ≤ K
  | 0, _ => ha
  | k + 1, h => lx_mx _ _ (h k (by omega)) (lx_gMax ha fun i hi => h i (by omega))
theorem lx_fMin {K : Nat} (ha : lx a ≤ K) : ∀ {k : Nat}, (∀ i, i < k → lx (x i) ≤ K) → lx (fMin x a k) ≤ K
  | 0, _ => ha
  | k + 1, h => lx_mn _ _ (lx_fMin ha fun i hi => h i (by omega)) (h k (by omega))
theorem lx_gMin {K : Nat} (ha : lx a ≤ K) : ∀ {k : Nat}, (∀ i, i < k → lx (x i) ≤ K) → lx (gMin x a k) ≤ K
  | 0, _ => ha
  | k + 1, h => lx_mn _ _ (h k (by omega)) (lx_gMin ha fun i hi => h i (by omega))
end Go.Abs
