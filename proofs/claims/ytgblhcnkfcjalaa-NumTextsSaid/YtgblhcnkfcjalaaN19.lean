/- The contracts as laws take them: with how many limbs there are. -/
import Derived.Test.YtgblhcnkfcjalaaN15
import Derived.Test.YtgblhcnkfcjalaaN11
import Derived.Test.YtgblhcnkfcjalaaA29
import Derived.Test.YtgblhcnkfcjalaaL4
set_option linter.unusedVariables false
set_option linter.unusedSimpArgs false
namespace Go.Abs
open Go Go.Proofs
set_option maxRecDepth 100000
set_option maxHeartbeats 4000000
set_option linter.unusedSimpArgs false

theorem w66 {H : Heap} {v : Value} {z : Int} {K : Nat} (h : IZ H v z K) (hK : K ≤ 2 ^ 40) : ACalls Try.prog 41 [v] H fun r H' => IN H' r (-z) ∧ ln (-z) ≤ K ∧ Hle H H' :=
  (z66 h hK).mono fun r H' ⟨h1, h2⟩ => ⟨h1, by rw [ln_neg]; exact h.ln, h2⟩
theorem w60 {H : Heap} {v w : Value} {y z : Int} {K L : Nat} (h : IZ H v y K) (h' : IZ H w z L) (hK : K ≤ 2 ^ 40) (hL : L ≤ 2 ^ 40) : ACalls Try.prog 35 [v, w] H fun r H' => IN H' r (y + z) ∧ ln (y + z) ≤ max K L + 1 ∧ Hle H H' :=
  (z60 h h' hK hL).mono fun r H' ⟨h1, h2⟩ => ⟨h1, by have := ln_add y z; have := h.ln; have := h'.ln; omega, h2⟩
theorem w61 {H : Heap} {v w : Value} {y z : Int} {K L : Nat} (h : IZ H v y K) (h' : IZ H w z L) (hK : K ≤ 2 ^ 40) (hL : L ≤ 2 ^ 40) : ACalls Try.prog 36 [v, w] H fun r H' => IN H' r (y - z) ∧ ln (y - z) ≤ max K L + 1 ∧ Hle H H' :=
  (z61 h h' hK hL).mono fun r H' ⟨h1, h2⟩ => ⟨h1, by have := ln_sub y z; have := h.ln; have := h'.ln; omega, h2⟩
theorem w54 {H : Heap} {v w : Value} {y z : Int} {K L : Nat} (h : IZ H v y K) (h' : IZ H w z L) (hK : K ≤ 2 ^ 40) (hL : L ≤ 2 ^ 40) : ACalls Try.prog 29 [v, w] H fun r H' => IN H' r (y * z) ∧ ln (y * z) ≤ K + L ∧ Hle H H' :=
  (c54 h h' hK hL).mono fun r H' ⟨h1, h2⟩ => ⟨h1, by have := ln_mul y z; have := h.ln; have := h'.ln; omega, h2⟩
theorem w44 {H : Heap} {v w : Value} {y z : Int} (h : IN H v y) (h' : IN H w z) (hb : ln y ≤ 2 ^ 40) (e : y = z) : ACalls Try.prog 19 [v, w] H fun r H' => r = .bool true ∧ True ∧ Hle H H' :=
  (z44 h h' (by omega)).mono fun r H' ⟨h1, h2⟩ => ⟨by rw [h1]; simp [e], trivial, h2⟩
theorem w41 {H : Heap} : ACalls Try.prog 16 [] H fun r H' => r = .bool true ∧ True ∧ Hle H H' :=
  (c41 H).mono fun r H' ⟨h1, h2⟩ => ⟨h1, trivial, by rw [h2]; exact Hle.rfl⟩
/-- Nought, as it is typed. -/
theorem IZ.nought {H : Heap} : IZ H (.agg ⟨[.bool false, .slice none 0 0]⟩) 0 0 := ⟨false, [], ⟨_, rfl, .nil, Lim.nil⟩, by simp [den, mayB, val], Nat.le_refl _⟩
theorem IA.iz {H : Heap} {v : Value} {ng : Bool} {l : List Int} {K : Nat} (h : IA Try.prog H v ng l) (hk : l.length ≤ K) : IZ H v (den ng l) K := ⟨ng, l, h, rfl, hk⟩
theorem L.app0 {α : Type} {l : List α} : List.append [] l = l := _root_.id rfl
theorem L.app1 {α : Type} {a : α} {l m : List α} : List.append (a :: l) m = a :: List.append l m := _root_.id rfl
attribute [go_sem] L.app0 L.app1

/-- Three numbers in a slice. -/
theorem IAs.three {H : Heap} {s1 s2 s3 : Value} {n1 n2 n3 : Bool} {l1 l2 l3 : List Int} (h1 : U Try.prog H s1 l1) (k1 : Lim l1) (h2 : U Try.prog H s2 l2) (k2 : Lim l2) (h3 : U Try.prog H s3 l3) (k3 : Lim l3) :
    IAs (H.push (.row true 24 [.bool n1, s1, .bool n2, s2, .bool n3, s3])) (.slice (some ⟨H.next, 0, none⟩) 3 3) [(n1, l1), (n2, l2), (n3, l3)] := by
  refine ⟨[.bool n1, s1, .bool n2, s2, .bool n3, s3], ?_, ?_⟩
  · exact Sl.row (P := Try.prog) (es := 2) (n := 3) (off := 0) (cs := [.bool n1, s1, .bool n2, s2, .bool n3, s3]) (get_push_self _ _) (by simp) (.inr T.s24) (.inr ⟨Nat.le_refl _, by unfold unk; omega⟩) (by simp)
  · intro i ng' l' h
    match i, h with
    | 0, h =>
      simp only [List.getElem?_cons_zero, Option.some.injEq, Prod.mk.injEq] at h
      obtain ⟨rfl, rfl⟩ := h
      exact ⟨s1, rfl, rfl, h1.mono (Hle.push0 _), k1⟩
    | 1, h =>
      simp only [List.getElem?_cons_zero, List.getElem?_cons_succ, Option.some.injEq, Prod.mk.injEq] at h
      obtain ⟨rfl, rfl⟩ := h
      exact ⟨s2, rfl, rfl, h2.mono (Hle.push0 _), k2⟩
    | 2, h =>
      simp only [List.getElem?_cons_zero, List.getElem?_cons_succ, Option.some.injEq, Prod.mk.injEq] at h
      obtain ⟨rfl, rfl⟩ := h
      exact ⟨s3, rfl, rfl, h3.mono (Hle.push0 _), k3⟩
    | i + 3, h => simp at h
theorem IAs.two {H : Heap} {s1 s2 : Value} {n1 n2 : Bool} {l1 l2 : List Int} (h1 : U Try.prog H s1 l1) (k1 : Lim l1) (h2 : U Try.prog H s2 l2) (k2 : Lim l2) :
    IAs (H.push (.row true 24 [.bool n1, s1, .bool n2, s2])) (.slice (some ⟨H.next, 0, none⟩) 2 2) [(n1, l1), (n2, l2)] := by
  refine ⟨[.bool n1, s1, .bool n2, s2], ?_, ?_⟩
  · exact Sl.row (P := Try.prog) (es := 2) (n := 2) (off := 0) (cs := [.bool n1, s1, .bool n2, s2]) (get_push_self _ _) (by simp) (.inr T.s24) (.inr ⟨Nat.le_refl _, by unfold unk; omega⟩) (by simp)
  · intro i ng' l' h
    match i, h with
    | 0, h =>
      simp only [List.getElem?_cons_zero, Option.some.injEq, Prod.mk.injEq] at h
      obtain ⟨rfl, rfl⟩ := h
      exact ⟨s1, rfl, rfl, h1.mono (Hle.push0 _), k1⟩
    | 1, h =>
      simp only [List.getElem?_cons_zero, List.getElem?_cons_succ, Option.some.injEq, Prod.mk.injEq] at h
      obtain ⟨rfl, rfl⟩ := h
      exact ⟨s2, rfl, rfl, h2.mono (Hle.push0 _), k2⟩
    | i + 2, h => simp at h
end Go.Abs
