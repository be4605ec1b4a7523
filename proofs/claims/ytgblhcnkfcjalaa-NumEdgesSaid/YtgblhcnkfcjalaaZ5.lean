/- A product in place, place by place. -/
import Derived.Test.YtgblhcnkfcjalaaZ4
set_option linter.unusedVariables false
set_option linter.unusedSimpArgs false
set_option linter.unusedVariables false
namespace Go.Abs

theorem drop_getD {a : List Int} {k : Nat} (h : k < a.length) : a.drop k = a.getD k 0 :: a.drop (k + 1) := by
  rw [List.drop_eq_getElem_cons h]; congr 1
  rw [List.getD_eq_getElem?_getD, List.getElem?_eq_getElem h]; rfl
theorem headD_drop {b : List Int} {k : Nat} : (b.drop k).headD 0 = b.getD k 0 := by
  rw [List.getD_eq_getElem?_getD, ← List.head?_drop]
  cases b.drop k <;> rfl
theorem tail_drop {b : List Int} {k : Nat} : (b.drop k).tail = b.drop (k + 1) := by rw [List.tail_drop]
theorem getD_none {b : List Int} {k : Nat} (h : b.length ≤ k) : b.getD k 0 = 0 := by
  rw [List.getD_eq_getElem?_getD, List.getElem?_eq_none h]; rfl
theorem take_set {α : Type} {o : List α} {j : Nat} {v : α} (h : j < o.length) : (o.set j v).take (j + 1) = o.take j ++ [v] := by
  rw [List.take_add_one, List.getElem?_set_self h, List.take_set_of_le (Nat.le_refl _)]; rfl
theorem drop_set {α : Type} {o : List α} {j : Nat} {v : α} : (o.set j v).drop (j + 1) = o.drop (j + 1) := by
  rw [List.drop_set_of_lt (Nat.lt_succ_self _)]

structure RowInv (u : Int) (y o0 o : List Int) (i k : Nat) (c : Int) : Prop where
  len : o.length = o0.length
  lim : Lim o
  cb : 0 ≤ c ∧ c < 4294967296
  eq : o.take (i + k) ++ rowL u (y.drop k) (o.drop (i + k)) c = o0.take i ++ rowL u y (o0.drop i) 0
theorem RowInv.init {u : Int} {y o0 : List Int} {i : Nat} (h : Lim o0) : RowInv u y o0 o0 i 0 0 := ⟨rfl, h, by omega, rfl⟩
theorem RowInv.step {u : Int} {y o0 o : List Int} {i k : Nat} {c : Int} (h : RowInv u y o0 o i k c) (hu : 0 ≤ u ∧ u < 4294967296) (hy : Lim y) (hk : k < y.length) (hi : i + y.length < o0.length) :
    RowInv u y o0 (o.set (i + k) ((c + (u * y.getD k 0 + o.getD (i + k) 0)) % 4294967296)) i (k + 1) ((c + (u * y.getD k 0 + o.getD (i + k) 0)) / 4294967296) := by
  have hs := rowL_step hu (hy.getD k) (h.lim.getD (i + k)) h.cb
  have hl := h.len
  refine ⟨by rw [List.length_set]; exact hl, h.lim.set _ (by omega), hs.2.2, ?_⟩
  rw [← h.eq, show i + (k + 1) = i + k + 1 by omega, take_set (by omega), drop_set, drop_getD (a := o) (k := i + k) (by omega), drop_getD (a := y) hk, rowL, List.append_assoc]
  rfl
theorem RowInv.done {u : Int} {y o0 o : List Int} {i : Nat} {c : Int} (h : RowInv u y o0 o i y.length c) (hi : i + y.length < o0.length) : o.set (i + y.length) c = o0.take i ++ rowL u y (o0.drop i) 0 := by
  have hl := h.len
  have e := h.eq
  rw [List.drop_length, drop_getD (a := o) (k := i + y.length) (by omega), rowL] at e
  rw [← e, List.set_eq_take_append_cons_drop, if_pos (by omega)]

structure MulInv (x y o : List Int) (i : Nat) : Prop where
  len : o.length = x.length + y.length
  lim : Lim o
  eq : o.take i ++ mulL (x.drop i) y (o.drop i) = mulL x y (List.replicate (x.length + y.length) 0)
theorem MulInv.init {x y : List Int} : MulInv x y (List.replicate (x.length + y.length) 0) 0 :=
  ⟨by simp, fun z hz => by rw [List.eq_of_mem_replicate hz]; omega, rfl⟩
theorem MulInv.step {x y o : List Int} {i : Nat} (h : MulInv x y o i) (hx : Lim x) (hy : Lim y) (hi : i < x.length) : MulInv x y (o.take i ++ rowL (x.getD i 0) y (o.drop i) 0) (i + 1) := by
  have hl := h.len
  have h1 := rowL_len (x.getD i 0) y (o.drop i) 0 (by rw [List.length_drop]; omega)
  have h2 := rowL_lim (hx.getD i) y (o.drop i) 0 hy (h.lim.drop i) (by omega)
  have e := h.eq
  rw [drop_getD hi, mulL] at e
  rw [List.length_drop] at h1
  have ht : (o.take i).length = i := by rw [List.length_take]; omega
  refine ⟨by rw [List.length_append, h1, ht]; omega, (h.lim.take i).append h2, ?_⟩
  revert h1 e
  cases hr : rowL (x.getD i 0) y (o.drop i) 0 with
  | nil => intro h1; simp at h1; omega
  | cons z r =>
    intro h1 e
    simp only at e
    rw [← e]
    have a1 : (o.take i ++ z :: r).take (i + 1) = o.take i ++ [z] := by
      rw [List.take_append, ht, List.take_of_length_le (by omega), show i + 1 - i = 1 by omega]; rfl
    have a2 : (o.take i ++ z :: r).drop (i + 1) = r := by
      rw [List.drop_append, ht, List.drop_of_length_le (by omega), show i + 1 - i = 1 by omega]; rfl
    rw [a1, a2, List.append_assoc]; rfl
theorem MulInv.done {x y o : List Int} (h : MulInv x y o x.length) (hx : Lim x) (hy : Lim y) : val o = val x * val y := by
  have e := h.eq
  rw [List.drop_length, mulL, List.take_append_drop] at e
  rw [e, (mulL_val hx hy).1]
theorem mul_sign (y z : Int) : (if (decide (y < 0) != decide (z < 0)) = true then -((y.natAbs : Int) * z.natAbs) else (y.natAbs : Int) * z.natAbs) = y * z := by
  by_cases b0 : y < 0 <;> by_cases b1 : z < 0
  · rw [if_neg (by simp [b0, b1]), show (y.natAbs : Int) = -y by omega, show (z.natAbs : Int) = -z by omega, Int.neg_mul_neg]
  · rw [if_pos (by simp [b0, b1]), show (y.natAbs : Int) = -y by omega, show (z.natAbs : Int) = z by omega, Int.neg_mul, Int.neg_neg]
  · rw [if_pos (by simp [b0, b1]), show (y.natAbs : Int) = y by omega, show (z.natAbs : Int) = -z by omega, Int.mul_neg, Int.neg_neg]
  · rw [if_neg (by simp [b0, b1]), show (y.natAbs : Int) = y by omega, show (z.natAbs : Int) = z by omega]

theorem val_append (a b : List Int) : val (a ++ b) = val a + 4294967296 ^ a.length * val b := by
  induction a with
  | nil => simp [val]
  | cons x a ih =>
    simp only [List.cons_append, val, List.length_cons, Int.pow_succ]
    rw [ih, Int.mul_add, Int.mul_comm (4294967296 ^ a.length) 4294967296, Int.mul_assoc]
    omega
theorem val_one (x : Int) : val [x] = x := by simp [val]
theorem val_drop_succ {a : List Int} {k : Nat} : val (a.drop k) = a.getD k 0 + 4294967296 * val (a.drop (k + 1)) := by
  rw [val_tail (b := a.drop k), headD_drop, tail_drop]
theorem add_step {o a b : List Int} {k : Nat} {c : Int} (hol : o.length = k) (he : val o + 4294967296 ^ k * (c + val (a.drop k) + val (b.drop k)) = val a + val b) :
    val (o ++ [(c + a.getD k 0 + b.getD k 0) % 4294967296]) + 4294967296 ^ (k + 1) * ((c + a.getD k 0 + b.getD k 0) / 4294967296 + val (a.drop (k + 1)) + val (b.drop (k + 1))) = val a + val b := by
  rw [← he, val_append, val_one, hol, val_drop_succ (a := a) (k := k), val_drop_succ (a := b) (k := k), Int.pow_succ, Int.mul_assoc, Int.add_assoc, ← Int.mul_add]
  congr 2
  omega
end Go.Abs
