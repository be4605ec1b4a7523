/- More contracts as laws take them. -/
import Derived.Test.YtgblhcnkfcjalaaN19
import Derived.Test.YtgblhcnkfcjalaaN21
set_option linter.unusedVariables false
set_option linter.unusedSimpArgs false
namespace Go.Abs
open Go Go.Proofs
set_option maxRecDepth 100000
set_option maxHeartbeats 40000000
set_option linter.unusedSimpArgs false

theorem w67 {H : Heap} {v : Value} {z : Int} {K : Nat} (h : IZ H v z K) (hK : K ≤ 2 ^ 40) : ACalls Try.prog 42 [v] H fun r H' => IN H' r (-z) ∧ ln (-z) ≤ K ∧ Hle H H' :=
  (z67 h hK).mono fun r H' ⟨h1, h2⟩ => ⟨h1, by rw [ln_neg]; exact h.ln, h2⟩
theorem w63 {H : Heap} {v w : Value} {y z : Int} {K L : Nat} (h : IZ H v y K) (h' : IZ H w z L) (hK : K ≤ 2 ^ 40) (hL : L ≤ 2 ^ 40) : ACalls Try.prog 38 [v, w] H fun r H' => IN H' r (y + z) ∧ ln (y + z) ≤ max K L + 1 ∧ Hle H H' :=
  (z63 h h' hK hL).mono fun r H' ⟨h1, h2⟩ => ⟨h1, by have := ln_add y z; have := h.ln; have := h'.ln; omega, h2⟩
theorem w64 {H : Heap} {v w : Value} {y z : Int} {K L : Nat} (h : IZ H v y K) (h' : IZ H w z L) (hK : K ≤ 2 ^ 40) (hL : L ≤ 2 ^ 40) : ACalls Try.prog 39 [v, w] H fun r H' => IN H' r (y - z) ∧ ln (y - z) ≤ max K L + 1 ∧ Hle H H' :=
  (z64 h h' hK hL).mono fun r H' ⟨h1, h2⟩ => ⟨h1, by have := ln_sub y z; have := h.ln; have := h'.ln; omega, h2⟩
theorem w65 {H : Heap} {v w : Value} {y z : Int} {K L : Nat} (h : IZ H v y K) (h' : IZ H w z L) (hK : K ≤ 2 ^ 40) (hL : L ≤ 2 ^ 40) : ACalls Try.prog 40 [v, w] H fun r H' => IN H' r (y * z) ∧ ln (y * z) ≤ K + L ∧ Hle H H' :=
  (z65 h h' hK hL).mono fun r H' ⟨h1, h2⟩ => ⟨h1, by have := ln_mul y z; have := h.ln; have := h'.ln; omega, h2⟩
theorem w55 {H : Heap} {v w : Value} {y z : Int} {K L : Nat} (h : IZ H v y K) (h' : IZ H w z L) (hK : K ≤ 2 ^ 40) (hL : L ≤ 2 ^ 40) : ACalls Try.prog 30 [v, w] H fun r H' => r = .int .i64 (sg (y - z)) ∧ True ∧ Hle H H' :=
  (z55 h h' hK hL).mono fun r H' ⟨h1, h2⟩ => ⟨h1, trivial, h2⟩
theorem w68 {H : Heap} {v w : Value} {y z : Int} {K L : Nat} (h : IZ H v y K) (h' : IZ H w z L) (hK : K ≤ 2 ^ 40) (hL : L ≤ 2 ^ 40) : ACalls Try.prog 43 [v, w] H fun r H' => r = .int .i64 (sg (y - z)) ∧ True ∧ Hle H H' :=
  (z68 h h' hK hL).mono fun r H' ⟨h1, h2⟩ => ⟨h1, trivial, h2⟩
/-- A number's limbs, copied. -/
theorem copied {H : Heap} {sl : Value} {l : List Int} (hu : U Try.prog H sl l) (hb : l.length ≤ 2 ^ 40) :
    aAppend Try.prog (H.push (.row true 50 [])) #[22, 22] (.slice (some ⟨H.next, 0, none⟩) 0 0) sl = some (apV Try.prog (H.push (.row true 50 [])) #[22, 22] (.slice (some ⟨H.next, 0, none⟩) 0 0) sl, apH Try.prog (H.push (.row true 50 [])) #[22, 22] (.slice (some ⟨H.next, 0, none⟩) 0 0) sl) ∧
      UO Try.prog H (apH Try.prog (H.push (.row true 50 [])) #[22, 22] (.slice (some ⟨H.next, 0, none⟩) 0 0) sl) (apV Try.prog (H.push (.row true 50 [])) #[22, 22] (.slice (some ⟨H.next, 0, none⟩) 0 0) sl) l ∧ Hle H (apH Try.prog (H.push (.row true 50 [])) #[22, 22] (.slice (some ⟨H.next, 0, none⟩) 0 0) sl) := by
  have h1 : UO Try.prog H (H.push (.row true 50 [])) (.slice (some ⟨H.next, 0, none⟩) 0 0) [] := UO.fresh Hle.rfl rfl (by simp [unk]) (by simp)
  obtain ⟨h2, h3, h4, _⟩ := h1.append (Hle.push0 _) (hu.mono (Hle.push0 _)) (by simp; omega)
  exact ⟨h2, h3, h4⟩
theorem aApp_blk {P : Program} {H H' : Heap} {el : TypeId} {bytes : Nat} {news : List Value} {m : Nat} {base : Option Addr} {n c : Nat} {v : Value} (h : aApp P H el bytes news m base n c = some (v, H')) : sblk v = sblk (.slice base n c) ∨ sblk v = H.next := by
  unfold aApp at h
  repeat' split at h
  all_goals first
    | cases h; done
    | (simp only [Option.some.injEq, Prod.mk.injEq] at h; obtain ⟨rfl, _⟩ := h; simp [sblk])
theorem append_blk {P : Program} {H H' : Heap} {ats : Array TypeId} {s x v : Value} (h : aAppend P H ats s x = some (v, H')) : sblk v = sblk s ∨ sblk v = H.next := by
  unfold aAppend at h
  repeat' split at h
  all_goals first
    | cases h; done
    | exact aApp_blk h
end Go.Abs
