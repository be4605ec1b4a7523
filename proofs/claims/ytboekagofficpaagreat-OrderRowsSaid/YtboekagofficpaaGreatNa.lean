/- Joined: N1, N2, N3. -/
import Derived.Test.YtboekagofficpaaGreatT
/- Numbers: whether one may be, its limbs, its sign. -/
set_option linter.unusedVariables false
set_option linter.unusedSimpArgs false
namespace Go.Abs
open Go Go.Proofs

/-- Whether a number may be. -/
def mayB (ng : Bool) (l : List Int) : Bool := if l.length = 0 then !ng else decide (l.getD (l.length - 1) 0 ≠ 0)

set_option maxRecDepth 10000
set_option linter.unusedSimpArgs false

theorem c51 {H : Heap} {v : Value} {ng : Bool} {l : List Int} (h : IA Tryz.prog H v ng l) (hb : l.length < 2 ^ 62) : ACalls Tryz.prog 65 [v] H fun r H' => r = .bool (mayB ng l) ∧ Hle H H' := by
  obtain ⟨sl, rfl, hu, hl⟩ := h
  refine ACalls.of_code T.hm (n := 18) Tryz.func65 rfl rfl rfl rfl ?_; simp only [List.replicate_succ, List.replicate_zero, List.cons_append, List.nil_append]
  simp (maxSteps := 1000000) (disch := first | exact sd | fail) only [go_sem, Nat.reduceAdd, Nat.reduceSub, Nat.reduceLeDiff, ↓reduceIte, decide_eq_true_eq, if_true, if_false, Bool.false_eq_true, Int.lt_irrefl, hu.len T.i22]
  split
  · rename_i h0
    have : l.length = 0 := by omega
    simp [mayB, this, Hle.push0]
  · simp (maxSteps := 1000000) (disch := first | exact sd | fail) only [go_sem, Nat.reduceAdd, Nat.reduceSub, Nat.reduceLeDiff, ↓reduceIte, decide_eq_true_eq, if_true, if_false, Bool.false_eq_true, Int.lt_irrefl, hu.addr Tryz.underlying70 T.s50 T.z50, hu.loadh T.r50]
    rename_i h0
    have : ¬ l.length = 0 := by omega
    simp [mayB, this, Hle.push0, show (↑l.length - 1 : Int).toNat = l.length - 1 by omega]

end Go.Abs

/- Numbers: the sign, copies, the shortest limbs. -/
set_option linter.unusedVariables false
set_option linter.unusedSimpArgs false
namespace Go.Abs
open Go Go.Proofs
set_option maxRecDepth 10000
set_option linter.unusedSimpArgs false

/-- Limbs in memory of their own. -/
def UO (P : Program) (H0 H : Heap) (sl : Value) (l : List Int) : Prop := Ow P H0 H 1 177 sl l.length (l.map (.int .u32))
theorem UO.u {H0 H : Heap} {sl : Value} {l : List Int} (h : UO Tryz.prog H0 H sl l) : U Tryz.prog H sl l := Ow.toSl h T.s50
theorem ints_oneCell (l : List Int) : (l.map (Value.int .u32)).all (·.oneCell') = true := by simp [Value.oneCell']
theorem UO.append {H0 H : Heap} {sl x : Value} {l m : List Int} (h : UO Tryz.prog H0 H sl l) (hle : Hle H0 H) (hx : U Tryz.prog H x m) (hs : l.length + m.length ≤ 35184372088732) :
    aAppend Tryz.prog H #[70, 70] sl x = some (apV Tryz.prog H #[70, 70] sl x, apH Tryz.prog H #[70, 70] sl x) ∧ UO Tryz.prog H0 (apH Tryz.prog H #[70, 70] sl x) (apV Tryz.prog H #[70, 70] sl x) (l ++ m) ∧ Hle H0 (apH Tryz.prog H #[70, 70] sl x) ∧
      (∀ b, b < H.next → b ≠ sblk sl → (apH Tryz.prog H #[70, 70] sl x).get b = H.get b) ∧ H.next ≤ (apH Tryz.prog H #[70, 70] sl x).next := by
  have := Ow.append h hle Tryz.underlying70 (info_of_type Tryz.type177) (z := .int .u32 0) rfl rfl T.s50 (by omega) T.o22 (Sl.lenV hx) (Sl.src hx) (by simp) (ints_oneCell m) (by omega) (by show _ * 4 ≤ _; omega)
  simpa only [UO, List.length_append, List.map_append] using this

theorem UO.fresh {H0 H : Heap} {cs : List Value} {n c : Nat} {l : List Int} (hle : Hle H0 H) (hn : n = l.length) (hc : n ≤ c ∧ c ≤ cs.length ∧ c < unk) (hl : cs.take n = l.map (.int .u32)) : UO Tryz.prog H0 (H.push (.row true 177 cs)) (.slice (some ⟨H.next, 0, none⟩) n c) l := by
  have := Ow.row (P := Tryz.prog) (H0 := H0) (H := H.push (.row true 177 cs)) (es := 1) (el := 177) (b := H.next) (off := 0) (n := n) (c := c) (get_push_self _ _) hle.next (by simp) (.inr ⟨hc.1, hc.2.2, by omega⟩) (by omega)
  rw [List.drop_zero, Nat.mul_one, hl] at this
  unfold UO
  rw [← hn]
  exact this

end Go.Abs

/- Numbers: the shortest limbs, in memory of their own. -/
set_option linter.unusedVariables false
set_option linter.unusedSimpArgs false
namespace Go.Abs
open Go Go.Proofs
set_option maxRecDepth 10000
set_option linter.unusedSimpArgs false

/-- Without so many on top all above is nought. -/
theorem trimL_take {l : List Int} : ∀ (k : Nat), k ≤ l.length → (∀ j, k ≤ j → j < l.length → l.getD j 0 = 0) → trimL l = trimL (l.take k) := by
  intro k hk h
  induction hm : l.length - k generalizing k with
  | zero => rw [List.take_of_length_le (by omega)]
  | succ m ih =>
    rw [ih (k + 1) (by omega) (fun j h1 h2 => h j (by omega) h2) (by omega)]
    rw [List.take_add_one, show l[k]? = some (l.getD k 0) by rw [List.getD_eq_getElem?_getD, List.getElem?_eq_getElem (by omega)]; simp, h k (Nat.le_refl _) (by omega)]
    exact trimL_snoc _

end Go.Abs
