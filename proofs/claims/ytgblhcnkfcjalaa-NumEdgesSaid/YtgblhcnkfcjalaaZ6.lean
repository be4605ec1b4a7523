/- Shifts of limbs. -/
import Derived.Test.YtgblhcnkfcjalaaZ5
set_option linter.unusedVariables false
set_option linter.unusedSimpArgs false
set_option linter.unusedVariables false
namespace Go.Abs

def shiftL (p : Int) : List Int → Int → List Int
  | [], c => [c]
  | x :: l, c => ((c + x * p) % 4294967296) :: shiftL p l ((c + x * p) / 4294967296)
theorem shiftL_val (p : Int) : ∀ (l : List Int) (c : Int), val (shiftL p l c) = val l * p + c
  | [], c => by simp [shiftL, val]
  | x :: l, c => by
    simp only [shiftL, val]
    rw [shiftL_val p l, Int.add_mul, Int.mul_assoc]
    generalize val l * p = q
    generalize x * p = r
    omega
theorem shiftL_len (p : Int) : ∀ (l : List Int) (c : Int), (shiftL p l c).length = l.length + 1
  | [], c => rfl
  | x :: l, c => by simp [shiftL, shiftL_len p l]
theorem shift_step {p c x : Int} (hp : 0 < p ∧ p ≤ 4294967296) (hc : 0 ≤ c ∧ c < p) (hx : 0 ≤ x ∧ x < 4294967296) : 0 ≤ x * p ∧ c + x * p < 4294967296 * p ∧ 0 ≤ (c + x * p) / 4294967296 ∧ (c + x * p) / 4294967296 < p := by
  have h1 : 0 ≤ x * p := Int.mul_nonneg hx.1 (by omega)
  have h2 : x * p ≤ 4294967295 * p := Int.mul_le_mul_of_nonneg_right (by omega) (by omega)
  omega
theorem shiftL_lim {p : Int} (hp : 0 < p ∧ p ≤ 4294967296) : ∀ (l : List Int) (c : Int), Lim l → 0 ≤ c ∧ c < p → Lim (shiftL p l c)
  | [], c, _, hc => Lim.cons (by omega) Lim.nil
  | x :: l, c, h, hc => by
    have := shift_step hp hc h.head
    exact Lim.cons (by omega) (shiftL_lim hp l _ h.tail (by omega))

def backL (p : Int) : List Int → List Int
  | [] => []
  | x :: l => ((x + l.headD 0 * 4294967296) / p) % 4294967296 :: backL p l
theorem backL_len (p : Int) : ∀ l, (backL p l).length = l.length
  | [] => rfl
  | x :: l => by simp [backL, backL_len p l]
theorem backL_lim (p : Int) : ∀ l, Lim (backL p l)
  | [] => Lim.nil
  | x :: l => Lim.cons (by omega) (backL_lim p l)
/-- One place of it: p divides a limb's range. -/
theorem back_step {p q x h v : Int} (hp : 0 < p) (hq : p * q = 4294967296) (hx : 0 ≤ x ∧ x < 4294967296) (hh : 0 ≤ h ∧ h < 4294967296) (hv : ∃ t, v = h + 4294967296 * t) :
    ((x + h * 4294967296) / p) % 4294967296 + 4294967296 * (v / p) = (x + 4294967296 * v) / p := by
  obtain ⟨t, rfl⟩ := hv
  have hq0 : 0 < q := by
    rcases Int.lt_or_le 0 q with h1 | h1
    · exact h1
    · have := Int.mul_le_mul_of_nonneg_left h1 (Int.le_of_lt hp); omega
  have e1 : (x + h * 4294967296) / p = x / p + q * h := by
    rw [← hq, show x + h * (p * q) = x + p * (q * h) by rw [Int.mul_comm h, Int.mul_assoc], Int.add_mul_ediv_left _ _ (by omega)]
  have e2 : (x + 4294967296 * (h + 4294967296 * t)) / p = x / p + q * (h + 4294967296 * t) := by
    rw [show x + 4294967296 * (h + 4294967296 * t) = x + p * (q * (h + 4294967296 * t)) by rw [← Int.mul_assoc, hq], Int.add_mul_ediv_left _ _ (by omega)]
  have e3 : (h + 4294967296 * t) / p = h / p + q * t := by
    rw [show h + 4294967296 * t = h + p * (q * t) by rw [← Int.mul_assoc, hq], Int.add_mul_ediv_left _ _ (by omega)]
  rw [e1, e2, e3]
  have h1 := Int.mul_ediv_add_emod h p
  have h2 := Int.emod_nonneg h (show p ≠ 0 by omega)
  have h3 := Int.emod_lt_of_pos h hp
  have h4 : 0 ≤ x / p := Int.ediv_nonneg hx.1 (by omega)
  have h5 : x / p < q := by rw [Int.ediv_lt_iff_lt_mul hp, Int.mul_comm, hq]; exact hx.2
  have e4 : q * h = 4294967296 * (h / p) + q * (h % p) := by
    rw [← hq, show p * q * (h / p) = q * (p * (h / p)) by rw [Int.mul_comm p, Int.mul_assoc], ← Int.mul_add, h1]
  have h6 : 0 ≤ q * (h % p) := Int.mul_nonneg (by omega) h2
  have h7 : q * (h % p) ≤ q * (p - 1) := Int.mul_le_mul_of_nonneg_left (by omega) (by omega)
  have e5 : q * (p - 1) = 4294967296 - q := by rw [Int.mul_sub, Int.mul_one, Int.mul_comm q, hq]
  rw [Int.mul_add q, e4]
  generalize q * (h % p) = u at *
  generalize x / p = w at *
  generalize h / p = s at *
  rw [show q * (4294967296 * t) = 4294967296 * (q * t) by rw [Int.mul_left_comm]]
  generalize q * t = z at *
  omega
theorem backL_val {p q : Int} (hp : 0 < p) (hq : p * q = 4294967296) : ∀ l, Lim l → val (backL p l) = val l / p
  | [], _ => by simp [backL, val]
  | x :: l, h => by
    simp only [backL, val]
    rw [backL_val hp hq l h.tail]
    exact back_step hp hq h.head h.tail.headD ⟨val l.tail, by rw [← val_tail]⟩
end Go.Abs
