/- What is done limb by limb: sums, differences, products, by one limb, which is greater. -/
import Derived.Test.YtgblhcnkfcjalaaZ1
set_option linter.unusedVariables false
set_option linter.unusedSimpArgs false
set_option linter.unusedVariables false
namespace Go.Abs

abbrev BB : Int := 4294967296

/-! ### sums -/
def plusL : List Int → List Int → Int → List Int
  | [], _, c => [c]
  | x :: a, b, c => ((c + x + b.headD 0) % 4294967296) :: plusL a b.tail ((c + x + b.headD 0) / 4294967296)

theorem val_tail {b : List Int} : val b = b.headD 0 + 4294967296 * val b.tail := by cases b <;> simp [val]
theorem Lim.headD {l : List Int} (h : Lim l) : 0 ≤ l.headD 0 ∧ l.headD 0 < 4294967296 := by
  cases l with
  | nil => simp
  | cons x l => exact h.head
theorem Lim.tl {l : List Int} (h : Lim l) : Lim l.tail := by
  cases l with
  | nil => exact Lim.nil
  | cons x l => exact h.tail

theorem plusL_val : ∀ (a b : List Int) (c : Int), b.length ≤ a.length → val (plusL a b c) = val a + val b + c
  | [], b, c, h => by
    have : b = [] := List.length_eq_zero_iff.1 (by simpa using h)
    subst this; simp [plusL, val]
  | x :: a, b, c, h => by
    simp only [plusL, val]
    rw [plusL_val a b.tail _ (by simp at h ⊢; omega), val_tail (b := b)]
    omega
theorem plusL_lim : ∀ (a b : List Int) (c : Int), Lim a → Lim b → 0 ≤ c ∧ c < 4294967296 → Lim (plusL a b c)
  | [], b, c, _, _, hc => Lim.cons hc Lim.nil
  | x :: a, b, c, ha, hb, hc => by
    have := ha.head
    have := hb.headD
    exact Lim.cons (by omega) (plusL_lim a b.tail _ ha.tail hb.tl (by omega))
theorem plusL_len : ∀ (a b : List Int) (c : Int), (plusL a b c).length = a.length + 1
  | [], b, c => rfl
  | x :: a, b, c => by simp [plusL, plusL_len a]

/-! ### differences -/
def minusL : List Int → List Int → Int → List Int
  | [], _, _ => []
  | x :: a, b, c => ((x - (c + b.headD 0)) % 4294967296) :: minusL a b.tail (if x < c + b.headD 0 then 1 else 0)

theorem minusL_val : ∀ (a b : List Int) (c : Int), Lim a → Lim b → 0 ≤ c ∧ c ≤ 1 → b.length ≤ a.length → val b + c ≤ val a → val (minusL a b c) = val a - val b - c
  | [], b, c, _, _, hc, hl, h => by
    have : b = [] := List.length_eq_zero_iff.1 (by simpa using hl)
    subst this
    simp only [minusL, val] at h ⊢
    omega
  | x :: a, b, c, ha, hb, hc, hl, h => by
    have h1 := ha.head
    have h2 := hb.headD
    rw [val_tail (b := b)] at h ⊢
    simp only [minusL, val] at h ⊢
    rw [minusL_val a b.tail _ ha.tail hb.tl (by split <;> omega) (by simp at hl ⊢; omega) (by split <;> omega)]
    split <;> omega
theorem minusL_lim : ∀ (a b : List Int) (c : Int), Lim (minusL a b c)
  | [], _, _ => Lim.nil
  | x :: a, b, c => Lim.cons (by omega) (minusL_lim a _ _)
theorem minusL_len : ∀ (a b : List Int) (c : Int), (minusL a b c).length = a.length
  | [], _, _ => rfl
  | x :: a, b, c => by simp [minusL, minusL_len a]

/-! ### products -/
/-- A row times a limb, and what is there; what is carried goes into the next place. -/
def rowL (u : Int) : List Int → List Int → Int → List Int
  | [], [], _ => []
  | [], _ :: o, c => c :: o
  | _ :: _, [], _ => []
  | v :: y, w :: o, c => ((c + (u * v + w)) % 4294967296) :: rowL u y o ((c + (u * v + w)) / 4294967296)
def mulL : List Int → List Int → List Int → List Int
  | [], _, o => o
  | u :: x, y, o => match rowL u y o 0 with
    | [] => []
    | z :: r => z :: mulL x y r

theorem rowL_len (u : Int) : ∀ (y o : List Int) (c : Int), y.length < o.length → (rowL u y o c).length = o.length
  | [], [], _, h => by simp at h
  | [], w :: o, c, h => rfl
  | v :: y, [], c, h => by simp at h
  | v :: y, w :: o, c, h => by simp only [rowL, List.length_cons]; rw [rowL_len u y o _ (by simpa using h)]
theorem mul_bound {u v : Int} (hu : 0 ≤ u ∧ u < 4294967296) (hv : 0 ≤ v ∧ v < 4294967296) : 0 ≤ u * v ∧ u * v ≤ 18446744065119617025 := by
  refine ⟨Int.mul_nonneg hu.1 hv.1, ?_⟩
  have := Int.mul_le_mul (a := u) (b := v) (c := 4294967295) (d := 4294967295) (by omega) (by omega) hv.1 (by omega)
  omega
theorem rowL_step {u v w c : Int} (hu : 0 ≤ u ∧ u < 4294967296) (hv : 0 ≤ v ∧ v < 4294967296) (hw : 0 ≤ w ∧ w < 4294967296) (hc : 0 ≤ c ∧ c < 4294967296) :
    0 ≤ c + (u * v + w) ∧ c + (u * v + w) < 18446744073709551616 ∧ 0 ≤ (c + (u * v + w)) / 4294967296 ∧ (c + (u * v + w)) / 4294967296 < 4294967296 := by
  have := mul_bound hu hv
  omega
theorem rowL_lim {u : Int} (hu : 0 ≤ u ∧ u < 4294967296) : ∀ (y o : List Int) (c : Int), Lim y → Lim o → 0 ≤ c ∧ c < 4294967296 → Lim (rowL u y o c)
  | [], [], _, _, _, _ => Lim.nil
  | [], w :: o, c, _, ho, hc => Lim.cons hc ho.tail
  | v :: y, [], c, _, _, _ => Lim.nil
  | v :: y, w :: o, c, hy, ho, hc => by
    have := rowL_step hu hy.head ho.head hc
    exact Lim.cons (by omega) (rowL_lim hu y o _ hy.tail ho.tail (by omega))
/-- The place that is written over held nought. -/
theorem rowL_val (u : Int) : ∀ (y o : List Int) (c : Int), y.length < o.length → o.getD y.length 0 = 0 → val (rowL u y o c) = u * val y + val o + c
  | [], [], _, h, _ => by simp at h
  | [], w :: o, c, h, h0 => by
    simp at h0
    simp only [rowL, val, h0]; omega
  | v :: y, [], c, h, _ => by simp at h
  | v :: y, w :: o, c, h, h0 => by
    simp only [rowL, val]
    have e : u * (v + 4294967296 * val y) = u * v + 4294967296 * (u * val y) := by rw [Int.mul_add, Int.mul_left_comm]
    rw [rowL_val u y o _ (by simpa using h) (by simpa using h0), e]
    generalize u * v = p
    generalize u * val y = q
    omega
theorem rowL_rest (u : Int) : ∀ (y o : List Int) (c : Int) (j : Nat), y.length < o.length → y.length < j → (rowL u y o c).getD j 0 = o.getD j 0
  | [], [], _, _, h, _ => by simp at h
  | [], w :: o, c, j, h, hj => by
    obtain ⟨k, rfl⟩ : ∃ k, j = k + 1 := ⟨j - 1, by simp at hj; omega⟩
    simp [rowL]
  | v :: y, [], c, _, h, _ => by simp at h
  | v :: y, w :: o, c, j, h, hj => by
    obtain ⟨k, rfl⟩ : ∃ k, j = k + 1 := ⟨j - 1, by simp at hj; omega⟩
    simp only [rowL, List.getD_cons_succ]
    exact rowL_rest u y o _ k (by simpa using h) (by simpa using hj)

theorem mulL_all : ∀ (x y o : List Int), Lim x → Lim y → Lim o → o.length = x.length + y.length → (∀ j, y.length ≤ j → o.getD j 0 = 0) →
    val (mulL x y o) = val x * val y + val o ∧ Lim (mulL x y o) ∧ (mulL x y o).length = o.length
  | [], y, o, _, _, ho, hl, hz => by simp [mulL, val, ho]
  | u :: x, y, o, hx, hy, ho, hl, hz => by
    have h1 := rowL_len u y o 0 (by simp at hl; omega)
    have h2 := rowL_lim hx.head y o 0 hy ho (by omega)
    have h3 := rowL_val u y o 0 (by simp at hl; omega) (hz _ (Nat.le_refl _))
    have h4 := fun j hj => rowL_rest u y o 0 j (by simp at hl; omega) hj
    simp only [mulL]
    revert h1 h2 h3 h4
    cases rowL u y o 0 with
    | nil => intro h1; simp at h1 hl; omega
    | cons z r =>
      intro h1 h2 h3 h4
      obtain ⟨k1, k2, k3⟩ := mulL_all x y r hx.tail hy h2.tail (by simp at h1 hl; omega) (fun j hj => by
        have := h4 (j + 1) (by omega)
        simp only [List.getD_cons_succ] at this
        rw [this]; exact hz _ (by omega))
      refine ⟨?_, Lim.cons h2.head k2, by simp only [List.length_cons] at h1 ⊢; omega⟩
      simp only [val] at h3 ⊢
      rw [k1, Int.add_mul, Int.mul_assoc]
      generalize val x * val y = p at *
      generalize u * val y = q at *
      omega
theorem mulL_val {x y : List Int} (hx : Lim x) (hy : Lim y) : val (mulL x y (List.replicate (x.length + y.length) 0)) = val x * val y ∧ Lim (mulL x y (List.replicate (x.length + y.length) 0)) ∧ (mulL x y (List.replicate (x.length + y.length) 0)).length = x.length + y.length := by
  have hz : ∀ n, val (List.replicate n 0) = 0 := by
    intro n
    induction n with
    | zero => rfl
    | succ n ih => simp [List.replicate_succ, val, ih]
  have h := mulL_all x y (List.replicate (x.length + y.length) 0) hx hy (fun z hz => by rw [List.eq_of_mem_replicate hz]; omega) (by simp) (fun j _ => by
    rw [List.getD_eq_getElem?_getD, List.getElem?_replicate]; split <;> rfl)
  rw [hz, Int.add_zero, List.length_replicate] at h
  exact h

/-! ### by one limb -/
def smallL (d : Int) : List Int → List Int × Int
  | [] => ([], 0)
  | x :: l => (((smallL d l).2 * 4294967296 + x) / d :: (smallL d l).1, ((smallL d l).2 * 4294967296 + x) % d)
theorem smallL_len (d : Int) : ∀ l, (smallL d l).1.length = l.length
  | [] => rfl
  | x :: l => by simp [smallL, smallL_len d l]
theorem smallL_rest {d : Int} (hd : 0 < d) : ∀ l, 0 ≤ (smallL d l).2 ∧ (smallL d l).2 < d
  | [] => by simp [smallL, hd]
  | x :: l => by simp only [smallL]; exact ⟨Int.emod_nonneg _ (by omega), Int.emod_lt_of_pos _ hd⟩
theorem smallL_val {d : Int} : ∀ l, val l = val (smallL d l).1 * d + (smallL d l).2
  | [] => by simp [smallL, val]
  | x :: l => by
    have ih := smallL_val (d := d) l
    have h := Int.mul_ediv_add_emod ((smallL d l).2 * 4294967296 + x) d
    rw [Int.mul_comm d] at h
    simp only [smallL, val]
    rw [Int.add_mul, Int.mul_assoc, ih]
    generalize (((smallL d l).2 * 4294967296 + x) / d) * d = p at *
    generalize val (smallL d l).1 * d = q at *
    omega
theorem small_step {d r x : Int} (hd : 0 < d ∧ d < 4294967296) (hr : 0 ≤ r ∧ r < d) (hx : 0 ≤ x ∧ x < 4294967296) : 0 ≤ (r * 4294967296 + x) / d ∧ (r * 4294967296 + x) / d < 4294967296 := by
  refine ⟨Int.ediv_nonneg (by omega) (by omega), ?_⟩
  rw [Int.ediv_lt_iff_lt_mul hd.1]
  omega
theorem smallL_lim {d : Int} (hd : 0 < d ∧ d < 4294967296) : ∀ l, Lim l → Lim (smallL d l).1
  | [], _ => Lim.nil
  | _ :: l, h => Lim.cons (small_step hd (smallL_rest hd.1 l) h.head) (smallL_lim hd l h.tail)
theorem smallL_div {d : Int} (hd : 0 < d) {l : List Int} : val (smallL d l).1 = val l / d ∧ (smallL d l).2 = val l % d := by
  have h1 := smallL_val (d := d) l
  have h2 := smallL_rest hd l
  have h3 : val l / d = val (smallL d l).1 := by
    rw [h1, Int.add_comm, Int.add_mul_ediv_right _ _ (by omega), Int.ediv_eq_zero_of_lt h2.1 h2.2]; omega
  have h4 : val l % d = (smallL d l).2 := by
    rw [h1, Int.add_comm, Int.add_mul_emod_self_right, Int.emod_eq_of_lt h2.1 h2.2]
  exact ⟨h3.symm, h4.symm⟩

/-! ### which is greater -/
theorem val_lt_pow : ∀ {l : List Int}, Lim l → val l < 4294967296 ^ l.length
  | [], _ => by simp [val]
  | x :: l, h => by
    have := val_lt_pow h.tail
    have := h.head
    simp only [val, List.length_cons, Int.pow_succ]
    omega
theorem val_ge_pow : ∀ {l : List Int}, Lim l → Top l → l ≠ [] → (4294967296 : Int) ^ (l.length - 1) ≤ val l
  | [], _, _, h => absurd rfl h
  | [x], hl, ht, _ => by
    have := hl.head
    rw [Top.cons_iff] at ht
    have := ht.2 rfl
    simp [val]; omega
  | x :: y :: l, hl, ht, _ => by
    rw [Top.cons_iff] at ht
    have := val_ge_pow hl.tail ht.1 (by simp)
    have := hl.head
    have e : (4294967296 : Int) ^ ((x :: y :: l).length - 1) = 4294967296 ^ ((y :: l).length - 1) * 4294967296 := by simp only [List.length_cons, Nat.add_sub_cancel, Int.pow_succ]
    rw [val, e]
    omega
theorem val_lt_len {l m : List Int} (hl : Lim l) (hm : Lim m) (tm : Top m) (h : l.length < m.length) : val l < val m := by
  have h1 := val_lt_pow hl
  have h2 := val_ge_pow hm tm (by intro h0; subst h0; simp at h)
  have h3 : (4294967296 : Int) ^ l.length ≤ 4294967296 ^ (m.length - 1) := by
    have := pow_le (K := l.length) (L := m.length - 1) (by omega)
    have h4 := Int.ofNat_le.2 this
    rw [Int.natCast_pow, Int.natCast_pow] at h4
    exact h4
  omega
theorem val_split : ∀ (k : Nat) (l : List Int), val l = val (l.take k) + 4294967296 ^ (min k l.length) * val (l.drop k)
  | 0, l => by simp [val]
  | k + 1, [] => by simp [val]
  | k + 1, x :: l => by
    have := val_split k l
    simp only [List.take_succ_cons, List.drop_succ_cons, val, List.length_cons]
    rw [show min (k + 1) (l.length + 1) = min k l.length + 1 by omega, Int.pow_succ, this, Int.mul_add, Int.mul_assoc, Int.mul_left_comm]
    omega
theorem val_lt_at {l m : List Int} (hl : Lim l) (hm : Lim m) (he : l.length = m.length) {k : Nat} (hk : k < l.length) (hd : l.drop (k + 1) = m.drop (k + 1)) (h : l.getD k 0 < m.getD k 0) : val l < val m := by
  have h1 := val_split k l
  have h2 := val_split k m
  have dl : l.drop k = l.getD k 0 :: l.drop (k + 1) := by
    rw [List.drop_eq_getElem_cons hk]; congr 1
    rw [List.getD_eq_getElem?_getD, List.getElem?_eq_getElem hk]; rfl
  have dm : m.drop k = m.getD k 0 :: m.drop (k + 1) := by
    rw [List.drop_eq_getElem_cons (by omega)]; congr 1
    rw [List.getD_eq_getElem?_getD, List.getElem?_eq_getElem (by omega)]; rfl
  rw [dl] at h1; rw [dm, ← hd] at h2
  rw [show min k l.length = k by omega] at h1
  rw [show min k m.length = k by omega] at h2
  have h3 := val_lt_pow (hl.take k)
  have h4 := val_nonneg (hm.take k)
  rw [List.length_take, show min k l.length = k by omega] at h3
  have hv : val (l.getD k 0 :: l.drop (k + 1)) + 1 ≤ val (m.getD k 0 :: l.drop (k + 1)) := by simp only [val]; omega
  have hp : (0 : Int) < 4294967296 ^ k := Int.pow_pos (by decide)
  have := Int.mul_le_mul_of_nonneg_left hv (Int.le_of_lt hp)
  rw [Int.mul_add] at this
  omega
/-- Below nought, nought, above nought. -/
def sg (z : Int) : Int := if z < 0 then -1 else if 0 < z then 1 else 0
end Go.Abs
