/- Numbers, as the document has them: whether one may be, its least form. -/
import Derived.Test.YtboekagofficpaaNa
set_option linter.unusedVariables false
set_option linter.unusedSimpArgs false
namespace Go.Abs
open Go Go.Proofs
set_option maxRecDepth 10000
set_option linter.unusedSimpArgs false

theorem c52 {H : Heap} {v : Value} {ng : Bool} {l : List Int} (h : IA Try.prog H v ng l) (hb : l.length < 2 ^ 62) : ACalls Try.prog 62 [v] H fun r H' => r = .bool (mayB ng l) ∧ Hle H H' := by
  obtain ⟨sl, rfl, hu, hl⟩ := h
  refine ACalls.of_code T.hm (n := 26) Try.func62 rfl rfl rfl rfl ?_; simp only [List.replicate_succ, List.replicate_zero, List.cons_append, List.nil_append]
  by_cases h0 : l.length = 0
  · have h1 : (l.length : Int) = 0 := by omega
    cases ng with
    | true =>
      simp (maxSteps := 1000000) (disch := first | exact sd | fail) only [go_sem, Nat.reduceAdd, Nat.reduceSub, Nat.reduceLeDiff, ↓reduceIte, decide_eq_true_eq, if_true, if_false, Bool.false_eq_true, Int.lt_irrefl, hu.len T.i22, h1]
      simp [mayB, h0, Hle.push0]
    | false =>
      simp (maxSteps := 1000000) (disch := first | exact sd | fail) only [go_sem, Nat.reduceAdd, Nat.reduceSub, Nat.reduceLeDiff, ↓reduceIte, decide_eq_true_eq, if_true, if_false, Bool.false_eq_true, Int.lt_irrefl, hu.len T.i22, h1]
      simp [mayB, h0, Hle.push0]
  · have h1 : ¬ (l.length : Int) = 0 := by omega
    have h2 : 0 < (l.length : Int) := by omega
    simp (maxSteps := 1000000) (disch := first | exact sd | fail) only [go_sem, Nat.reduceAdd, Nat.reduceSub, Nat.reduceLeDiff, ↓reduceIte, decide_eq_true_eq, if_true, if_false, Bool.false_eq_true, Int.lt_irrefl, hu.len T.i22, h1, h2, hu.addr Try.underlying45 T.s50 T.z50, hu.loadh T.r50, show (↑l.length - 1 : Int).toNat = l.length - 1 by omega]
    simp [mayB, h0, Hle.push0]

/-- The sign, the limbs of what may be; else nought's. -/
def nzS (ng : Bool) (l : List Int) : Bool := if mayB ng l then ng else false
def nzL (ng : Bool) (l : List Int) : List Int := if mayB ng l then l else []

theorem get_box {H H' : Heap} {o : AObj} (h : Hle (H.push o) H') : H'.get H.next = some o := by
  rw [h.get _ (by simp)]; exact get_push_self _ _

theorem c44 {H : Heap} {v w : Value} {ng mg : Bool} {l m : List Int} (h : IA Try.prog H v ng l) (h' : IA Try.prog H w mg m) (hb : l.length < 2 ^ 62) : ACalls Try.prog 13 [v, w] H fun r H' => r = .bool (decide (ng = mg ∧ l = m)) ∧ Hle H H' := by
  obtain ⟨sl, rfl, hu, hl⟩ := h
  obtain ⟨sm, rfl, hw, hm⟩ := h'
  refine ACalls.of_code T.hm (n := 36) Try.func13 rfl rfl rfl rfl ?_; simp only [List.replicate_succ, List.replicate_zero, List.cons_append, List.nil_append]
  by_cases h0 : ng = mg
  rotate_left
  · have h1 : (ng != mg) = true := by simp [h0]
    simp (maxSteps := 1000000) (disch := first | exact sd | fail) only [go_sem, Nat.reduceAdd, Nat.reduceSub, Nat.reduceLeDiff, ↓reduceIte, decide_eq_true_eq, if_true, if_false, Bool.false_eq_true, Int.lt_irrefl, aw_drawn (id := 6), aw_drawn' (id := 6), h1]
    exact ⟨by simp [h0], (Hle.push0 _).push _⟩
  subst h0
  by_cases h2 : l.length = m.length
  rotate_left
  · have h1 : (ng != ng) = false := by simp
    have h3 : (l.length : Int) ≠ (m.length : Int) := by omega
    simp (maxSteps := 1000000) (disch := first | exact sd | fail) only [go_sem, Nat.reduceAdd, Nat.reduceSub, Nat.reduceLeDiff, ↓reduceIte, decide_eq_true_eq, if_true, if_false, Bool.false_eq_true, Int.lt_irrefl, aw_drawn (id := 6), aw_drawn' (id := 6), h1, hu.len T.i22, hw.len T.i22, h3, ne_eq, not_false_eq_true, not_true_eq_false]
    exact ⟨by simp; intro h; exact h2 (by rw [h]), (Hle.push0 _).push _⟩
  have h1 : (ng != ng) = false := by simp
  have h3 : (l.length : Int) = (m.length : Int) := by omega
  simp (maxSteps := 1000000) (disch := first | exact sd | fail) only [go_sem, Nat.reduceAdd, Nat.reduceSub, Nat.reduceLeDiff, ↓reduceIte, decide_eq_true_eq, if_true, if_false, Bool.false_eq_true, Int.lt_irrefl, aw_drawn (id := 6), aw_drawn' (id := 6), h1, hu.len T.i22, hw.len T.i22, h3, ne_eq, not_false_eq_true, not_true_eq_false]
  refine aw_loopJ (σ := Nat) (fun k J => [J 0, J 1, .pointer (some ⟨H.next, 0, none⟩), .pointer (some ⟨H.next + 1, 0, none⟩), J 4, .int .i64 k, J 6, J 7, J 8, J 9, J 10, J 11, J 12, J 13, J 14, J 15, J 16, J 17, J 18, J 19, J 20, J 21, J 22, J 23, J 24, J 25, J 26, J 27, J 28, J 29, J 30, J 31, J 32, J 33, J 34, J 35, J 36, J 37]) (fun n k H1 => n = l.length - k ∧ H1 = (H.push (.row true 47 [.bool ng, sl])).push (.row true 47 [.bool ng, sm]) ∧ k ≤ l.length ∧ l.take k = m.take k) l.length 0 rfl ⟨rfl, rfl, Nat.zero_le _, rfl⟩ ?_
  rintro n k J H1 ⟨rfl, rfl, hk, ht⟩
  by_cases h4 : (k : Int) < l.length
  · by_cases h5 : l.getD k 0 = m.getD k 0
    · simp (maxSteps := 1000000) (disch := first | exact sd | fail) only [go_sem, Nat.reduceAdd, Nat.reduceSub, Nat.reduceLeDiff, ↓reduceIte, decide_eq_true_eq, if_true, if_false, Bool.false_eq_true, Int.lt_irrefl, aw_drawn (id := 6), aw_drawn' (id := 6), h1, hu.len T.i22, hw.len T.i22, h3 ▸ h4, h4, hu.addr Try.underlying45 T.s50 T.z50, hu.loadh T.r50, hw.addr Try.underlying45 T.s50 T.z50, hw.loadh T.r50, Int.toNat_natCast, h5, ne_eq, not_true_eq_false]
      refine IJ_intro (k := l.length - (k + 1)) (by omega) (k + 1) rfl ⟨rfl, rfl, by omega, ?_⟩
      rw [List.take_add_one, List.take_add_one, ht]
      congr 1
      rw [List.getD_eq_getElem?_getD, List.getD_eq_getElem?_getD, List.getElem?_eq_getElem (by omega), List.getElem?_eq_getElem (by omega)] at h5
      rw [List.getElem?_eq_getElem (by omega), List.getElem?_eq_getElem (by omega)]
      simpa using h5
    · simp (maxSteps := 1000000) (disch := first | exact sd | fail) only [go_sem, Nat.reduceAdd, Nat.reduceSub, Nat.reduceLeDiff, ↓reduceIte, decide_eq_true_eq, if_true, if_false, Bool.false_eq_true, Int.lt_irrefl, aw_drawn (id := 6), aw_drawn' (id := 6), h1, hu.len T.i22, hw.len T.i22, h3 ▸ h4, h4, hu.addr Try.underlying45 T.s50 T.z50, hu.loadh T.r50, hw.addr Try.underlying45 T.s50 T.z50, hw.loadh T.r50, Int.toNat_natCast, h5, ne_eq, not_false_eq_true]
      refine ⟨?_, (Hle.push0 _).push _⟩
      have : l ≠ m := fun h => h5 (by rw [h])
      simp [this]
  · simp (maxSteps := 1000000) (disch := first | exact sd | fail) only [go_sem, Nat.reduceAdd, Nat.reduceSub, Nat.reduceLeDiff, ↓reduceIte, decide_eq_true_eq, if_true, if_false, Bool.false_eq_true, Int.lt_irrefl, aw_drawn (id := 6), aw_drawn' (id := 6), h1, hu.len T.i22, hw.len T.i22, h4]
    refine ⟨?_, (Hle.push0 _).push _⟩
    rw [List.take_of_length_le (by omega), List.take_of_length_le (by omega)] at ht
    simp [ht]

theorem c148 {H : Heap} {v : Value} {ng : Bool} {l : List Int} (h : IA Try.prog H v ng l) (hb : l.length < 2 ^ 62) : ACalls Try.prog 49 [v] H fun r H' => IA Try.prog H' r (nzS ng l) (nzL ng l) ∧ Hle H H' := by
  have h' := h
  obtain ⟨sl, rfl, hu, hl⟩ := h'
  have hy := hu.isSl
  refine ACalls.of_code T.hm (n := 7) Try.func49 rfl rfl rfl rfl ?_; simp only [List.replicate_succ, List.replicate_zero, List.cons_append, List.nil_append]
  simp (maxSteps := 1000000) (disch := first | exact sd | fail) only [go_sem, Nat.reduceAdd, Nat.reduceSub, Nat.reduceLeDiff, ↓reduceIte, decide_eq_true_eq, if_true, if_false, Bool.false_eq_true, Int.lt_irrefl]
  refine (c52 (h.mono ((Hle.push0 _).push _)) hb).mono ?_
  rintro _ H' ⟨rfl, hle⟩
  have hg1 : H'.get (H.next + 1) = some (.row true 47 [.bool false, .slice none 0 0]) := get_box hle
  have hg : H'.get H.next = some (.row true 47 [.bool ng, sl]) := by
    rw [hle.get _ (by simp; omega)]; exact get_box (Hle.push0 _)
  have hle0 : Hle H H' := ((Hle.push0 _).push _).trans hle
  unfold nzS nzL
  cases hm : mayB ng l with
  | true =>
    simp (maxSteps := 1000000) (disch := first | exact sd | fail) only [go_sem, Nat.reduceAdd, Nat.reduceSub, Nat.reduceLeDiff, ↓reduceIte, decide_eq_true_eq, if_true, if_false, Bool.false_eq_true, Int.lt_irrefl, hg, hg1]
    have hle2 := hle0.set (c := H.next + 1) (by omega) (.row true 47 [.bool ng, sl])
    exact ⟨h.mono hle2, hle2⟩
  | false =>
    simp (maxSteps := 1000000) (disch := first | exact sd | fail) only [go_sem, Nat.reduceAdd, Nat.reduceSub, Nat.reduceLeDiff, ↓reduceIte, decide_eq_true_eq, if_true, if_false, Bool.false_eq_true, Int.lt_irrefl, hg, hg1]
    exact ⟨⟨_, rfl, .nil, Lim.nil⟩, hle0.set (by omega) _⟩
end Go.Abs
