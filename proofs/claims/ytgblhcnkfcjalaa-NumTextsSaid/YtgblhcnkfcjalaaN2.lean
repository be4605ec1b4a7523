/- Numbers: the sign, copies, the shortest limbs. -/
import Derived.Test.YtgblhcnkfcjalaaN1
set_option linter.unusedVariables false
set_option linter.unusedSimpArgs false
namespace Go.Abs
open Go Go.Proofs
set_option maxRecDepth 10000
set_option linter.unusedSimpArgs false

theorem c145 {H : Heap} {v : Value} {ng : Bool} {l : List Int} (h : IA Try.prog H v ng l) (hb : l.length < 2 ^ 62) : ACalls Try.prog 47 [v] H fun r H' => r = .bool (mayB ng l && ng) ∧ Hle H H' := by
  have h' := h
  obtain ⟨sl, rfl, hu, hl⟩ := h'
  refine ACalls.of_code T.hm (n := 8) Try.func47 rfl rfl rfl rfl ?_; simp only [List.replicate_succ, List.replicate_zero, List.cons_append, List.nil_append]
  simp (maxSteps := 1000000) (disch := first | exact sd | fail) only [go_sem, Nat.reduceAdd, Nat.reduceSub, Nat.reduceLeDiff, ↓reduceIte, decide_eq_true_eq, if_true, if_false, Bool.false_eq_true, Int.lt_irrefl]
  refine (c51 (h.mono (Hle.push0 _)) hb).mono ?_
  rintro _ H' ⟨rfl, hle⟩
  have hg : H'.get H.next = some (.row true 24 [.bool ng, sl]) := by rw [hle.get _ (by simp)]; exact get_push_self _ _
  have hle0 : Hle H H' := (Hle.push0 _).trans hle
  cases hm : mayB ng l with
  | true => simp (maxSteps := 1000000) (disch := first | exact sd | fail) only [go_sem, Nat.reduceAdd, Nat.reduceSub, Nat.reduceLeDiff, ↓reduceIte, decide_eq_true_eq, if_true, if_false, Bool.false_eq_true, Int.lt_irrefl, hg]; exact ⟨by simp, hle0⟩
  | false => simp (maxSteps := 1000000) (disch := first | exact sd | fail) only [go_sem, Nat.reduceAdd, Nat.reduceSub, Nat.reduceLeDiff, ↓reduceIte, decide_eq_true_eq, if_true, if_false, Bool.false_eq_true, Int.lt_irrefl, hg]; exact ⟨by simp, hle0⟩

theorem c151 {H : Heap} {x : Int} : ACalls Try.prog 53 [.int .u64 x] H fun r H' => r = .int .u32 (x % 4294967296) ∧ Hle H H' := by
  refine ACalls.of_code T.hm (n := 4) Try.func53 rfl rfl rfl rfl ?_; simp only [List.replicate_succ, List.replicate_zero, List.cons_append, List.nil_append]
  simp (maxSteps := 1000000) (disch := first | exact sd | fail) only [go_sem, Nat.reduceAdd, Nat.reduceSub, Nat.reduceLeDiff, ↓reduceIte, decide_eq_true_eq, if_true, if_false, Bool.false_eq_true, Int.lt_irrefl, wrap_u32]
  exact ⟨trivial, Hle.rfl⟩

/-- Limbs in memory of their own. -/
def UO (P : Program) (H0 H : Heap) (sl : Value) (l : List Int) : Prop := Ow P H0 H 1 50 sl l.length (l.map (.int .u32))
theorem UO.u {H0 H : Heap} {sl : Value} {l : List Int} (h : UO Try.prog H0 H sl l) : U Try.prog H sl l := Ow.toSl h T.s50
theorem ints_oneCell (l : List Int) : (l.map (Value.int .u32)).all (·.oneCell') = true := by simp [Value.oneCell']
theorem UO.append {H0 H : Heap} {sl x : Value} {l m : List Int} (h : UO Try.prog H0 H sl l) (hle : Hle H0 H) (hx : U Try.prog H x m) (hs : l.length + m.length ≤ 35184372088732) :
    aAppend Try.prog H #[22, 22] sl x = some (apV Try.prog H #[22, 22] sl x, apH Try.prog H #[22, 22] sl x) ∧ UO Try.prog H0 (apH Try.prog H #[22, 22] sl x) (apV Try.prog H #[22, 22] sl x) (l ++ m) ∧ Hle H0 (apH Try.prog H #[22, 22] sl x) ∧
      (∀ b, b < H.next → b ≠ sblk sl → (apH Try.prog H #[22, 22] sl x).get b = H.get b) ∧ H.next ≤ (apH Try.prog H #[22, 22] sl x).next := by
  have := Ow.append h hle Try.underlying22 (info_of_type Try.type50) (z := .int .u32 0) rfl rfl T.s50 (by omega) T.o22 (Sl.lenV hx) (Sl.src hx) (by simp) (ints_oneCell m) (by omega) (by show _ * 4 ≤ _; omega)
  simpa only [UO, List.length_append, List.map_append] using this

theorem UO.fresh {H0 H : Heap} {cs : List Value} {n c : Nat} {l : List Int} (hle : Hle H0 H) (hn : n = l.length) (hc : n ≤ c ∧ c ≤ cs.length ∧ c < unk) (hl : cs.take n = l.map (.int .u32)) : UO Try.prog H0 (H.push (.row true 50 cs)) (.slice (some ⟨H.next, 0, none⟩) n c) l := by
  have := Ow.row (P := Try.prog) (H0 := H0) (H := H.push (.row true 50 cs)) (es := 1) (el := 50) (b := H.next) (off := 0) (n := n) (c := c) (get_push_self _ _) hle.next (by simp) (.inr ⟨hc.1, hc.2.2, by omega⟩) (by omega)
  rw [List.drop_zero, Nat.mul_one, hl] at this
  unfold UO
  rw [← hn]
  exact this

theorem c209 {H : Heap} {sl : Value} {l : List Int} (hu : U Try.prog H sl l) (hb : l.length ≤ 35184372088732) : ACalls Try.prog 66 [sl] H fun r H' => UO Try.prog H H' r l ∧ Hle H H' := by
  refine ACalls.of_code T.hm (n := 7) Try.func66 rfl rfl rfl rfl ?_; simp only [List.replicate_succ, List.replicate_zero, List.cons_append, List.nil_append]
  simp (maxSteps := 1000000) (disch := first | exact sd | fail) only [go_sem, Nat.reduceAdd, Nat.reduceSub, Nat.reduceLeDiff, ↓reduceIte, decide_eq_true_eq, if_true, if_false, Bool.false_eq_true, Int.lt_irrefl, T.nil22 hu.isSlc]
  split
  · rename_i h
    have h2 := Sl.isNil hu h
    have : l = [] := List.length_eq_zero_iff.1 h2.1
    subst this
    exact ⟨.nil, Hle.rfl⟩
  · have h1 : UO Try.prog H (H.push (.row true 50 [])) (.slice (some ⟨H.next, 0, none⟩) 0 0) [] := UO.fresh Hle.rfl rfl (by simp [unk]) (by simp)
    obtain ⟨h2, h3, h4, _⟩ := h1.append (Hle.push0 _) (hu.mono (Hle.push0 _)) (by simp; omega)
    simp (maxSteps := 1000000) (disch := first | exact sd | fail) only [go_sem, Nat.reduceAdd, Nat.reduceSub, Nat.reduceLeDiff, ↓reduceIte, decide_eq_true_eq, if_true, if_false, Bool.false_eq_true, Int.lt_irrefl, h2]
    exact ⟨h3, h4⟩
end Go.Abs
