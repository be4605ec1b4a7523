/- Numbers, as the document has them: whether one may be, its least form. -/
import Derived.Test.YtboekagofficpaaGreatNa
set_option linter.unusedVariables false
set_option linter.unusedSimpArgs false
namespace Go.Abs
open Go Go.Proofs
set_option maxRecDepth 10000
set_option linter.unusedSimpArgs false

theorem c52 {H : Heap} {v : Value} {ng : Bool} {l : List Int} (h : IA Tryz.prog H v ng l) (hb : l.length < 2 ^ 62) : ACalls Tryz.prog 68 [v] H fun r H' => r = .bool (mayB ng l) ∧ Hle H H' := by
  obtain ⟨sl, rfl, hu, hl⟩ := h
  refine ACalls.of_code T.hm (n := 26) Tryz.func68 rfl rfl rfl rfl ?_; simp only [List.replicate_succ, List.replicate_zero, List.cons_append, List.nil_append]
  by_cases h0 : l.length = 0
  · have h1 : (l.length : Int) = 0 := by omega
    cases ng with
    | true =>
      simp (maxSteps := 1000000) (disch := first | exact sd | fail) only [go_sem, Nat.reduceAdd, Nat.reduceSub, Nat.reduceLeDiff, ↓reduceIte, decide_eq_true_eq, if_true, if_false, Bool.false_eq_true, Int.lt_irrefl, hu.len T.i22, h1]
      simp [mayB, h0, Hle.push0]
    | false =>
      simp (maxSteps := 1000000) (disch := first | exact sd | fail) only [go_sem, Nat.reduceAdd, Nat.reduceSub, Nat.reduceLeDiff, ↓reduceIte, decide_eq_true_eq, if_true, if_false, Bool.false_eq_true, Int.lt_irrefl, hu.len T.i22, h1]
      simp [mayB, h0, Hle.push0]
  · have h1 : ¬ (l.length : Int) = 0 := by omega
    have h2 : 0 < (l.length : Int) := by omega
    simp (maxSteps := 1000000) (disch := first | exact sd | fail) only [go_sem, Nat.reduceAdd, Nat.reduceSub, Nat.reduceLeDiff, ↓reduceIte, decide_eq_true_eq, if_true, if_false, Bool.false_eq_true, Int.lt_irrefl, hu.len T.i22, h1, h2, hu.addr Tryz.underlying70 T.s50 T.z50, hu.loadh T.r50, show (↑l.length - 1 : Int).toNat = l.length - 1 by omega]
    simp [mayB, h0, Hle.push0]

/-- The sign, the limbs of what may be; else nought's. -/
def nzS (ng : Bool) (l : List Int) : Bool := if mayB ng l then ng else false
def nzL (ng : Bool) (l : List Int) : List Int := if mayB ng l then l else []

theorem get_box {H H' : Heap} {o : AObj} (h : Hle (H.push o) H') : H'.get H.next = some o := by
  rw [h.get _ (by simp)]; exact get_push_self _ _

theorem c148 {H : Heap} {v : Value} {ng : Bool} {l : List Int} (h : IA Tryz.prog H v ng l) (hb : l.length < 2 ^ 62) : ACalls Tryz.prog 105 [v] H fun r H' => IA Tryz.prog H' r (nzS ng l) (nzL ng l) ∧ Hle H H' := by
  have h' := h
  obtain ⟨sl, rfl, hu, hl⟩ := h'
  have hy := hu.isSl
  refine ACalls.of_code T.hm (n := 7) Tryz.func105 rfl rfl rfl rfl ?_; simp only [List.replicate_succ, List.replicate_zero, List.cons_append, List.nil_append]
  simp (maxSteps := 1000000) (disch := first | exact sd | fail) only [go_sem, Nat.reduceAdd, Nat.reduceSub, Nat.reduceLeDiff, ↓reduceIte, decide_eq_true_eq, if_true, if_false, Bool.false_eq_true, Int.lt_irrefl]
  refine (c52 (h.mono ((Hle.push0 _).push _)) hb).mono ?_
  rintro _ H' ⟨rfl, hle⟩
  have hg1 : H'.get (H.next + 1) = some (.row true 72 [.bool false, .slice none 0 0]) := get_box hle
  have hg : H'.get H.next = some (.row true 72 [.bool ng, sl]) := by
    rw [hle.get _ (by simp; omega)]; exact get_box (Hle.push0 _)
  have hle0 : Hle H H' := ((Hle.push0 _).push _).trans hle
  unfold nzS nzL
  cases hm : mayB ng l with
  | true =>
    simp (maxSteps := 1000000) (disch := first | exact sd | fail) only [go_sem, Nat.reduceAdd, Nat.reduceSub, Nat.reduceLeDiff, ↓reduceIte, decide_eq_true_eq, if_true, if_false, Bool.false_eq_true, Int.lt_irrefl, hg, hg1]
    have hle2 := hle0.set (c := H.next + 1) (by omega) (.row true 72 [.bool ng, sl])
    exact ⟨h.mono hle2, hle2⟩
  | false =>
    simp (maxSteps := 1000000) (disch := first | exact sd | fail) only [go_sem, Nat.reduceAdd, Nat.reduceSub, Nat.reduceLeDiff, ↓reduceIte, decide_eq_true_eq, if_true, if_false, Bool.false_eq_true, Int.lt_irrefl, hg, hg1]
    exact ⟨⟨_, rfl, .nil, Lim.nil⟩, hle0.set (by omega) _⟩
end Go.Abs
