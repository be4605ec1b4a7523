/- num.Read: a call of values. -/
import Derived.Test.YthiaciajkjdcnaaY5
import Derived.Test.YthiaciajkjdcnaaNd
set_option linter.unusedVariables false
set_option linter.unusedSimpArgs false
namespace Go.Abs
open Go Go.Proofs
set_option maxRecDepth 100000
set_option maxHeartbeats 4000000

/-- The digits of a text that is a number's. -/
def fl (l : List Int) : List Int := l.filter fun x => decide (x ≠ 45)
def zdN (l : List Int) : Int := if l.headD 0 = 45 then -(rdL (dgs l) 0 : Nat) else (rdL (dgs l) 0 : Nat)
def rdV (l : List Int) : Int := if 5000 < l.length then 0 else if okN l = true then zdN l else 0
def rdE (l : List Int) : Int := if 5000 < l.length then 2 else if okN l = true then 0 else 4
theorem okN_dig {l : List Int} (h : okN l = true) : ∀ x ∈ dgs l, isDig x := by
  simp only [okN, decide_eq_true_eq] at h
  intro x hx
  simpa [isDig] using List.all_eq_true.1 h.2.2 x hx
theorem okN_ne {l : List Int} (h : okN l = true) : dgs l ≠ [] := by
  simp only [okN, decide_eq_true_eq] at h
  exact h.1
theorem okN_fl {l : List Int} (h : okN l = true) : fl l = dgs l := by
  have hd := okN_dig h
  have e : (dgs l).filter (fun x => decide (x ≠ 45)) = dgs l := by
    rw [List.filter_eq_self]
    intro x hx
    have := hd x hx
    unfold isDig at this
    simp only [decide_eq_true_eq]; omega
  unfold fl
  unfold dgs at e hd ⊢
  cases l with
  | nil => rfl
  | cons a l =>
    simp only [List.headD_cons, List.drop_succ_cons, List.drop_zero] at e hd ⊢
    by_cases ha : a = 45
    · rw [if_pos ha] at e ⊢
      rw [List.filter_cons_of_neg (by simp [ha]), e]
    · rw [if_neg ha] at e ⊢
      exact e
theorem okN_mem {l : List Int} (h : okN l = true) {x : Int} (hx : x ∈ l) : x = 45 ∨ isDig x := by
  by_cases h5 : x = 45
  · exact .inl h5
  · refine .inr (okN_dig h x ?_)
    rw [← okN_fl h]
    unfold fl
    rw [List.mem_filter]
    exact ⟨hx, by simpa using h5⟩
theorem fl_take {l : List Int} {i : Nat} (hi : i < l.length) : fl (l.take (i + 1)) = fl (l.take i) ++ (if l.getD i 0 = 45 then [] else [l.getD i 0]) := by
  have e : l.getD i 0 = l[i] := by rw [List.getD_eq_getElem?_getD, List.getElem?_eq_getElem hi]; rfl
  rw [e, List.take_add_one, List.getElem?_eq_getElem hi]
  unfold fl
  rw [List.filter_append]
  congr 1
  show List.filter _ [l[i]] = _
  by_cases h : l[i] = 45
  · rw [if_pos h, List.filter_cons_of_neg (by simp [h])]; rfl
  · rw [if_neg h, List.filter_cons_of_pos (by simp [h])]; rfl
theorem set_mid {a b : List Int} {x y : Int} : (a ++ x :: b).set a.length y = a ++ y :: b := by
  rw [List.set_append_right _ _ (Nat.le_refl _), Nat.sub_self]; rfl
theorem get_mid {a b : List Int} {x : Int} : (a ++ x :: b).getD a.length 0 = x := by
  rw [List.getD_eq_getElem?_getD, List.getElem?_append_right (Nat.le_refl _), Nat.sub_self]; rfl
theorem mul_step {B D c y v V : Int} (h : D + B * (c + 10 * (y + 4294967296 * v)) = V) : D + B * ((c + y * 10) % 4294967296) + 4294967296 * B * ((c + y * 10) / 4294967296 + 10 * v) = V := by
  have e := Int.mul_ediv_add_emod (c + y * 10) 4294967296
  generalize (c + y * 10) / 4294967296 = q at *
  generalize (c + y * 10) % 4294967296 = r at *
  rw [← h, show c + 10 * (y + 4294967296 * v) = r + 4294967296 * (q + 10 * v) by omega, Int.mul_add B, ← Int.mul_assoc B, Int.mul_comm B 4294967296, Int.add_assoc]

theorem pu_rd {z e : Int} : Pu (.tuple ⟨[Zn z, .int .i64 e]⟩) := .tuple (.cons pu_in (.cons (.ground rfl) .nil))
end Go.Abs
