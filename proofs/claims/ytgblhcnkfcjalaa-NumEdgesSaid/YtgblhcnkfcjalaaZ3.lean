/- Dividing limbs by limbs: one step of it, in numbers; what is taken away and put back, limb by limb. -/
import Derived.Test.YtgblhcnkfcjalaaZ2
set_option linter.unusedVariables false
set_option linter.unusedSimpArgs false
set_option linter.unusedVariables false
namespace Go.Abs

/-! ### one guess -/
section
variable {V W P top next vr x u2 wr g : Int}
/-- V is (top*B+next)*P+vr, W is (x*B+u2)*P+wr. -/
structure Win (V W P top next vr x u2 wr : Int) : Prop where
  v : V = (top * 4294967296 + next) * P + vr
  w : W = (x * 4294967296 + u2) * P + wr
  p : 0 < P
  vr : 0 ≤ vr ∧ vr < P
  wr : 0 ≤ wr ∧ wr < P
  top : 2147483648 ≤ top ∧ top < 4294967296
  next : 0 ≤ next ∧ next < 4294967296
  u2 : 0 ≤ u2 ∧ u2 < 4294967296
  x : 0 ≤ x
  lt : W < 4294967296 * V

variable (h : Win V W P top next vr x u2 wr)
include h

theorem Win.x_lt : x < (top + 1) * 4294967296 := by
  have h1 := h.v; have h2 := h.w; have h3 := h.vr; have h4 := h.wr; have h5 := h.lt; have hp := h.p; have hu := h.u2; have hn := h.next
  have k1 : 0 ≤ u2 * P := Int.mul_nonneg hu.1 (Int.le_of_lt hp)
  have k2 : next * P ≤ 4294967295 * P := Int.mul_le_mul_of_nonneg_right (by omega) (Int.le_of_lt hp)
  have k3 : x * P < ((top + 1) * 4294967296) * P := by
    simp only [Int.add_mul, Int.mul_assoc, Int.mul_left_comm _ (4294967296 : Int)] at *
    generalize top * P = a at *
    generalize next * P = b at *
    generalize x * P = c at *
    generalize u2 * P = d at *
    omega
  exact Int.lt_of_mul_lt_mul_right k3 (Int.le_of_lt hp)

/-- The guess from the two uppermost limbs is not too small. -/
theorem Win.first (hg : x < (g + 1) * top) (h0 : 0 ≤ g) : W < (g + 1) * V := by
  have h1 := h.v; have h2 := h.w; have h3 := h.vr; have h4 := h.wr; have hp := h.p; have hu := h.u2; have hn := h.next
  have k1 : (x + 1) * P ≤ ((g + 1) * top) * P := Int.mul_le_mul_of_nonneg_right hg (Int.le_of_lt hp)
  have k2 : u2 * P ≤ 4294967295 * P := Int.mul_le_mul_of_nonneg_right (by omega) (Int.le_of_lt hp)
  have k3 : 0 ≤ (g + 1) * (next * P) := Int.mul_nonneg (by omega) (Int.mul_nonneg hn.1 (Int.le_of_lt hp))
  have k4 : 0 ≤ (g + 1) * vr := Int.mul_nonneg (by omega) h3.1
  have e : (g + 1) * V = 4294967296 * (((g + 1) * top) * P) + (g + 1) * (next * P) + (g + 1) * vr := by
    rw [h1]; simp only [Int.add_mul, Int.mul_add, Int.mul_assoc, Int.mul_left_comm _ (4294967296 : Int)]
  rw [e, h2]
  simp only [Int.add_mul, Int.mul_assoc, Int.mul_left_comm _ (4294967296 : Int)] at *
  generalize x * P = c at *
  generalize u2 * P = d at *
  omega

/-- A guess that the third limb tells is too great. -/
theorem Win.less (hg : x * 4294967296 + u2 < g * (top * 4294967296 + next)) (h0 : 0 ≤ g) : W < g * V := by
  have h1 := h.v; have h2 := h.w; have h3 := h.vr; have h4 := h.wr; have hp := h.p
  have k1 : (x * 4294967296 + u2 + 1) * P ≤ (g * (top * 4294967296 + next)) * P := Int.mul_le_mul_of_nonneg_right hg (Int.le_of_lt hp)
  have k4 : 0 ≤ g * vr := Int.mul_nonneg h0 h3.1
  have e : g * V = (g * (top * 4294967296 + next)) * P + g * vr := by rw [h1, Int.mul_add, Int.mul_assoc]
  rw [e, h2]
  rw [Int.add_mul _ 1] at k1
  omega

/-- What the third limb lets by is one too great at most. -/
theorem Win.near (hg : g * (top * 4294967296 + next) ≤ x * 4294967296 + u2) (hb : g < 4294967296) : g * V ≤ W + V := by
  have h1 := h.v; have h2 := h.w; have h3 := h.vr; have h4 := h.wr; have hp := h.p; have ht := h.top; have hn := h.next
  have k1 : (g * (top * 4294967296 + next)) * P ≤ (x * 4294967296 + u2) * P := Int.mul_le_mul_of_nonneg_right hg (Int.le_of_lt hp)
  have k2 : g * vr ≤ 4294967296 * P := Int.mul_le_mul (by omega) (by omega) h3.1 (by omega)
  have k3 : 4294967296 * P ≤ (top * 4294967296 + next) * P := Int.mul_le_mul_of_nonneg_right (by omega) (Int.le_of_lt hp)
  have e : g * V = (g * (top * 4294967296 + next)) * P + g * vr := by rw [h1, Int.mul_add, Int.mul_assoc]
  rw [e]
  omega

/-- Where the rest is a limb or more the guess is not too great. -/
theorem Win.done (hg : g * top + 4294967296 ≤ x) (h0 : 0 ≤ g) (hb : g ≤ 4294967296) : g * V ≤ W := by
  have h1 := h.v; have h2 := h.w; have h3 := h.vr; have h4 := h.wr; have hp := h.p; have ht := h.top; have hn := h.next; have hu := h.u2
  have k1 : (g * top + 4294967296) * P ≤ x * P := Int.mul_le_mul_of_nonneg_right hg (Int.le_of_lt hp)
  have k0 : 0 ≤ u2 * P := Int.mul_nonneg hu.1 (Int.le_of_lt hp)
  have k5 : next * P ≤ 4294967295 * P := Int.mul_le_mul_of_nonneg_right (by omega) (Int.le_of_lt hp)
  have k6 : 0 ≤ next * P := Int.mul_nonneg hn.1 (Int.le_of_lt hp)
  have k2 : g * (next * P + vr) ≤ 4294967296 * (4294967296 * P) := Int.mul_le_mul (by omega) (by omega) (by omega) (by omega)
  have e : g * V = 4294967296 * ((g * top) * P) + g * (next * P + vr) := by
    rw [h1]; simp only [Int.add_mul, Int.mul_add, Int.mul_assoc, Int.mul_left_comm _ (4294967296 : Int)]; omega
  rw [e, h2]
  simp only [Int.add_mul, Int.mul_assoc, Int.mul_left_comm _ (4294967296 : Int)] at *
  generalize x * P = c at *
  generalize u2 * P = d at *
  generalize g * (top * P) = f at *
  omega
end

/-! ### taking away, putting back -/
def takeL (n : Int) : List Int → List Int → Int → List Int × Int
  | [], _, c => ([], c)
  | x :: u, v, c => ((x - (c + v.headD 0 * n) % 4294967296) % 4294967296 :: (takeL n u v.tail ((c + v.headD 0 * n) / 4294967296 + if x < (c + v.headD 0 * n) % 4294967296 then 1 else 0)).1,
      (takeL n u v.tail ((c + v.headD 0 * n) / 4294967296 + if x < (c + v.headD 0 * n) % 4294967296 then 1 else 0)).2)
theorem takeL_len (n : Int) : ∀ (u v : List Int) (c : Int), (takeL n u v c).1.length = u.length
  | [], _, _ => rfl
  | x :: u, v, c => by simp [takeL, takeL_len n u]
theorem takeL_lim (n : Int) : ∀ (u v : List Int) (c : Int), Lim (takeL n u v c).1
  | [], _, _ => Lim.nil
  | x :: u, v, c => Lim.cons (by omega) (takeL_lim n u _ _)
theorem takeL_val (n : Int) : ∀ (u v : List Int) (c : Int), Lim u → v.length ≤ u.length → val (takeL n u v c).1 = val u - val v * n - c + (takeL n u v c).2 * 4294967296 ^ u.length
  | [], v, c, _, h => by
    have : v = [] := List.length_eq_zero_iff.1 (by simpa using h)
    subst this; simp [takeL, val]; omega
  | x :: u, v, c, hu, h => by
    have ih := takeL_val n u v.tail ((c + v.headD 0 * n) / 4294967296 + if x < (c + v.headD 0 * n) % 4294967296 then 1 else 0) hu.tail (by simp at h ⊢; omega)
    have hx := hu.head
    rw [val_tail (b := v)]
    simp only [takeL, val, List.length_cons, Int.pow_succ, ih, Int.add_mul, Int.mul_assoc]
    generalize v.headD 0 * n = p at *
    generalize val v.tail * n = q at *
    generalize (takeL n u v.tail ((c + p) / 4294967296 + if x < (c + p) % 4294967296 then 1 else 0)).2 = k at *
    rw [← Int.mul_assoc k, Int.mul_comm _ (4294967296 : Int)]
    generalize k * 4294967296 ^ u.length = r at *
    split <;> omega
theorem takeL_carry {n : Int} (hn : 0 ≤ n ∧ n < 4294967296) : ∀ (u v : List Int) (c : Int), Lim v → 0 ≤ c ∧ c ≤ 4294967296 → 0 ≤ (takeL n u v c).2 ∧ (takeL n u v c).2 ≤ 4294967296
  | [], v, c, _, hc => hc
  | x :: u, v, c, hv, hc => by
    have h := hv.headD
    have h1 := mul_bound h hn
    simp only [takeL]
    refine takeL_carry hn u v.tail _ hv.tl ?_
    generalize v.headD 0 * n = p at *
    split <;> omega
theorem take_step {n c y : Int} (hn : 0 ≤ n ∧ n < 4294967296) (hc : 0 ≤ c ∧ c ≤ 4294967296) (hy : 0 ≤ y ∧ y < 4294967296) : 0 ≤ y * n ∧ 0 ≤ c + y * n ∧ c + y * n < 18446744073709551616 ∧ 0 ≤ (c + y * n) / 4294967296 ∧ (c + y * n) / 4294967296 < 4294967296 := by
  have := mul_bound hy hn
  omega

def giveL : List Int → List Int → Int → List Int × Int
  | [], _, c => ([], c)
  | x :: u, v, c => ((c + x + v.headD 0) % 4294967296 :: (giveL u v.tail ((c + x + v.headD 0) / 4294967296)).1, (giveL u v.tail ((c + x + v.headD 0) / 4294967296)).2)
theorem giveL_len : ∀ (u v : List Int) (c : Int), (giveL u v c).1.length = u.length
  | [], _, _ => rfl
  | x :: u, v, c => by simp [giveL, giveL_len u]
theorem giveL_lim : ∀ (u v : List Int) (c : Int), Lim (giveL u v c).1
  | [], _, _ => Lim.nil
  | x :: u, v, c => Lim.cons (by omega) (giveL_lim u _ _)
theorem giveL_val : ∀ (u v : List Int) (c : Int), v.length ≤ u.length → val (giveL u v c).1 + (giveL u v c).2 * 4294967296 ^ u.length = val u + val v + c
  | [], v, c, h => by
    have : v = [] := List.length_eq_zero_iff.1 (by simpa using h)
    subst this; simp [giveL, val]
  | x :: u, v, c, h => by
    have ih := giveL_val u v.tail ((c + x + v.headD 0) / 4294967296) (by simp at h ⊢; omega)
    rw [val_tail (b := v)]
    simp only [giveL, val, List.length_cons, Int.pow_succ]
    generalize (giveL u v.tail ((c + x + v.headD 0) / 4294967296)).2 = k at *
    rw [← Int.mul_assoc k, Int.mul_comm _ (4294967296 : Int)]
    generalize k * 4294967296 ^ u.length = r at *
    omega

/-- What is left behind a step, from a guess that is right or one too great. -/
theorem take_right {g q V W M : Int} {o c : Int} (hVM : V ≤ M) (hq : q * V ≤ W ∧ W < (q + 1) * V) (hW : W < M) (he : o = W - V * g - 0 + c * M) (ho : 0 ≤ o ∧ o < M) (h : g = q) : c = 0 ∧ o = W - q * V := by
  subst h
  have e : V * g = g * V := Int.mul_comm _ _
  rw [e] at he
  rw [Int.add_mul, Int.one_mul] at hq
  generalize g * V = p at *
  have hc : c = 0 := by
    by_cases h1 : c ≥ 1
    · have := Int.mul_le_mul_of_nonneg_right h1 (show 0 ≤ M by omega)
      omega
    · by_cases h2 : c ≤ -1
      · have := Int.mul_le_mul_of_nonneg_right h2 (show 0 ≤ M by omega)
        omega
      · omega
  subst hc
  omega
theorem take_wrong {g q V W M : Int} {o c o2 c2 : Int} (hVM : V ≤ M) (hq : q * V ≤ W ∧ W < (q + 1) * V) (he : o = W - V * g - 0 + c * M) (ho : 0 ≤ o ∧ o < M) (h : g = q + 1) (hg : o2 + c2 * M = o + V + 0) (ho2 : 0 ≤ o2 ∧ o2 < M) : c ≠ 0 ∧ o2 = W - q * V := by
  subst h
  rw [Int.mul_add, Int.mul_one, Int.mul_comm V q] at he
  rw [Int.add_mul, Int.one_mul] at hq
  generalize q * V = p at *
  have hc : c = 1 := by
    by_cases h1 : c ≥ 2
    · have := Int.mul_le_mul_of_nonneg_right h1 (show 0 ≤ M by omega)
      omega
    · by_cases h2 : c ≤ 0
      · have := Int.mul_le_mul_of_nonneg_right h2 (show 0 ≤ M by omega)
        omega
      · omega
  subst hc
  refine ⟨by decide, ?_⟩
  have hc2 : c2 = 1 := by
    by_cases h1 : c2 ≥ 2
    · have := Int.mul_le_mul_of_nonneg_right h1 (show 0 ≤ M by omega)
      omega
    · by_cases h2 : c2 ≤ 0
      · have := Int.mul_le_mul_of_nonneg_right h2 (show 0 ≤ M by omega)
        omega
      · omega
  subst hc2
  omega
end Go.Abs
