/- Decimal digits. -/
import Derived.Test.YtgblhcnkfcjalaaZ3
set_option linter.unusedVariables false
set_option linter.unusedSimpArgs false
set_option linter.unusedVariables false
namespace Go.Abs

/-- Digits, the lowest first, as bytes. -/
def decL (n : Nat) : List Int := if n = 0 then [] else (((n % 10 : Nat) : Int) + 48) :: decL (n / 10)
  termination_by n
  decreasing_by omega
theorem decL_zero : decL 0 = [] := by rw [decL, if_pos rfl]
theorem decL_pos {n : Nat} (h : n ≠ 0) : decL n = (((n % 10 : Nat) : Int) + 48) :: decL (n / 10) := by rw [decL, if_neg h]
theorem decL_nil {n : Nat} : decL n = [] ↔ n = 0 := by
  constructor
  · intro h
    by_cases h0 : n = 0
    · exact h0
    · rw [decL_pos h0] at h; cases h
  · rintro rfl; exact decL_zero
def isDig (x : Int) : Prop := 48 ≤ x ∧ x ≤ 57
theorem decL_dig (n : Nat) : ∀ x ∈ decL n, isDig x := by
  induction n using Nat.strongRecOn with
  | ind n ih =>
    by_cases h : n = 0
    · subst h; rw [decL_zero]; intro x hx; cases hx
    · rw [decL_pos h]
      intro x hx
      rcases List.mem_cons.1 hx with rfl | hx
      · unfold isDig; omega
      · exact ih _ (by omega) x hx
/-- The uppermost digit is none of nought. -/
theorem decL_top (n : Nat) : n = 0 ∨ (decL n).getD ((decL n).length - 1) 0 ≠ 48 := by
  induction n using Nat.strongRecOn with
  | ind n ih =>
    by_cases h : n = 0
    · exact .inl h
    · right
      rw [decL_pos h]
      by_cases h1 : n / 10 = 0
      · rw [h1, decL_zero]; simp; omega
      · have h2 : decL (n / 10) ≠ [] := by rw [Ne, decL_nil]; exact h1
        have h3 : 0 < (decL (n / 10)).length := List.length_pos_iff.2 h2
        obtain ⟨k, hk⟩ : ∃ k, (decL (n / 10)).length = k + 1 := ⟨_, (Nat.succ_pred_eq_of_pos h3).symm⟩
        rcases ih (n / 10) (by omega) with h4 | h4
        · exact absurd h4 h1
        · rw [hk] at h4
          simp only [List.length_cons, hk, Nat.add_sub_cancel, List.getD_cons_succ] at h4 ⊢
          exact h4

/-- So many digits. -/
def decP : Nat → Nat → List Int
  | 0, _ => []
  | k + 1, n => (((n % 10 : Nat) : Int) + 48) :: decP k (n / 10)
theorem decP_len : ∀ (k n : Nat), (decP k n).length = k
  | 0, _ => rfl
  | k + 1, n => by simp [decP, decP_len k]
theorem decP_succ : ∀ (k n : Nat), decP (k + 1) n = decP k n ++ [((n / 10 ^ k % 10 : Nat) : Int) + 48]
  | 0, n => by simp [decP]
  | k + 1, n => by
    rw [decP, decP_succ k (n / 10), decP, List.cons_append, Nat.div_div_eq_div_mul, Nat.pow_succ, Nat.mul_comm (10 ^ k)]
theorem decP_add : ∀ (j k n : Nat), decP (j + k) n = decP j n ++ decP k (n / 10 ^ j)
  | 0, k, n => by simp [decP]
  | j + 1, k, n => by
    rw [Nat.add_right_comm, decP, decP_add j k (n / 10), decP, List.cons_append, Nat.div_div_eq_div_mul, Nat.pow_succ, Nat.mul_comm (10 ^ j)]
theorem decP_mod : ∀ (k n m : Nat), n % 10 ^ k = m % 10 ^ k → decP k n = decP k m
  | 0, _, _, _ => rfl
  | k + 1, n, m, h => by
    have h1 : n % 10 = m % 10 := by
      have := congrArg (· % 10) h
      simp only [Nat.pow_succ] at this
      rwa [Nat.mod_mod_of_dvd _ (Nat.dvd_mul_left _ _), Nat.mod_mod_of_dvd _ (Nat.dvd_mul_left _ _)] at this
    have h2 : n / 10 % 10 ^ k = m / 10 % 10 ^ k := by
      have := congrArg (· / 10) h
      simp only [Nat.pow_succ, Nat.mul_comm _ 10] at this
      rwa [Nat.mod_mul_right_div_self, Nat.mod_mul_right_div_self] at this
    simp only [decP, h1, decP_mod k _ _ h2]
/-- The digits, and noughts on top. -/
theorem decP_decL : ∀ (k n : Nat), n < 10 ^ k → decP k n = decL n ++ List.replicate (k - (decL n).length) 48 ∧ (decL n).length ≤ k
  | 0, n, h => by
    have : n = 0 := by simpa using h
    subst this; simp [decP, decL_zero]
  | k + 1, n, h => by
    by_cases h0 : n = 0
    · subst h0
      obtain ⟨h1, _⟩ := decP_decL k 0 (Nat.pow_pos (by decide))
      rw [decL_zero] at h1 ⊢
      simp [decP, h1, List.replicate_succ]
    · obtain ⟨h1, h2⟩ := decP_decL k (n / 10) (by rw [Nat.pow_succ] at h; omega)
      rw [decP, h1, decL_pos h0]
      simp only [List.length_cons, List.cons_append]
      rw [show k + 1 - ((decL (n / 10)).length + 1) = k - (decL (n / 10)).length by omega]
      exact ⟨rfl, by omega⟩

/-- A number's text, as bytes. -/
def txt (z : Int) : List Int := if z = 0 then [48] else if z < 0 then 45 :: (decL z.natAbs).reverse else (decL z.natAbs).reverse

/-- What digits come to, the uppermost first. -/
def rdL (l : List Int) (a : Nat) : Nat := l.foldl (fun a x => a * 10 + (x - 48).toNat) a
theorem rdL_nil (a : Nat) : rdL [] a = a := rfl
theorem rdL_cons (x : Int) (l : List Int) (a : Nat) : rdL (x :: l) a = rdL l (a * 10 + (x - 48).toNat) := rfl
theorem rdL_snoc (l : List Int) (x : Int) (a : Nat) : rdL (l ++ [x]) a = rdL l a * 10 + (x - 48).toNat := by simp [rdL]
theorem rdL_decL (n : Nat) : rdL (decL n).reverse 0 = n := by
  induction n using Nat.strongRecOn with
  | ind n ih =>
    by_cases h : n = 0
    · subst h; rw [decL_zero]; rfl
    · rw [decL_pos h, List.reverse_cons, rdL_snoc, ih _ (by omega)]
      omega
/-- Digits whose uppermost is none of nought are those of what they come to. -/
theorem decL_rdL : ∀ (n : Nat) (l : List Int), l.length = n → (∀ x ∈ l, isDig x) → (l = [] ∨ l.headD 0 ≠ 48) → (decL (rdL l 0)).reverse = l := by
  intro n
  induction n with
  | zero =>
    intro l h _ _
    have : l = [] := List.length_eq_zero_iff.1 h
    subst this
    rw [rdL_nil, decL_zero]; rfl
  | succ n ih =>
    intro l h hd h0
    have hne : l ≠ [] := by intro e; subst e; simp at h
    obtain ⟨m, x, rfl⟩ : ∃ m x, l = m ++ [x] := ⟨l.dropLast, l.getLast hne, (List.dropLast_concat_getLast hne).symm⟩
    have hx : isDig x := hd x (by simp)
    have hm := ih m (by simpa using h) (fun y hy => hd y (by simp [hy])) (by
      by_cases e : m = []
      · exact .inl e
      · right
        rcases h0 with h0 | h0
        · simp at h0
        · cases m with
          | nil => exact absurd rfl e
          | cons y m => simpa using h0)
    rw [rdL_snoc]
    unfold isDig at hx
    have hpos : rdL m 0 * 10 + (x - 48).toNat ≠ 0 := by
      by_cases e : m = []
      · subst e
        rcases h0 with h0 | h0
        · simp at h0
        · simp at h0; rw [rdL_nil]; omega
      · intro e2
        have : rdL m 0 = 0 := by omega
        rw [this, decL_zero] at hm
        exact e hm.symm
    rw [decL_pos hpos, List.reverse_cons, show (rdL m 0 * 10 + (x - 48).toNat) / 10 = rdL m 0 by omega, hm]
    congr 2
    omega
end Go.Abs
