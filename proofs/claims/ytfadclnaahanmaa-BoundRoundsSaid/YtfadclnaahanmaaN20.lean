/- The document's differences of limbs. -/
import Derived.Test.YtfadclnaahanmaaN18
set_option linter.unusedVariables false
set_option linter.unusedSimpArgs false
namespace Go.Abs
open Go Go.Proofs
set_option maxRecDepth 100000
set_option maxHeartbeats 40000000
set_option linter.unusedSimpArgs false

structure SubInv (a b o : List Int) (k : Nat) (c : Int) : Prop where
  len : o.length = a.length
  cb : 0 ≤ c ∧ c ≤ 1
  eq : o.take k ++ minusL (o.drop k) (b.drop k) c = minusL a b 0
  same : o.drop k = a.drop k
theorem SubInv.init {a b : List Int} : SubInv a b a 0 0 := ⟨rfl, by omega, rfl, rfl⟩
theorem SubInv.get {a b o : List Int} {k : Nat} {c : Int} (h : SubInv a b o k c) : o.getD k 0 = a.getD k 0 := by
  have := congrArg (fun l => l.headD 0) h.same
  simpa only [headD_drop] using this
theorem SubInv.step {a b o : List Int} {k : Nat} {c : Int} (h : SubInv a b o k c) (hk : k < a.length) :
    SubInv a b (o.set k ((a.getD k 0 - (c + b.getD k 0)) % 4294967296)) (k + 1) (if a.getD k 0 < c + b.getD k 0 then 1 else 0) := by
  have hl := h.len
  have e := h.eq
  have hs := h.same
  rw [drop_getD (a := o) (k := k) (by omega), minusL, headD_drop, tail_drop, h.get] at e
  refine ⟨by rw [List.length_set]; exact hl, by constructor <;> split <;> omega, ?_, ?_⟩
  · rw [take_set (by omega), drop_set, ← e, List.append_assoc]; rfl
  · rw [drop_set]
    have := congrArg List.tail hs
    simpa only [tail_drop] using this
theorem SubInv.done {a b o : List Int} {c : Int} (h : SubInv a b o a.length c) : o = minusL a b 0 := by
  have e := h.eq
  have hl := h.len
  rw [List.drop_of_length_le (by omega), List.take_of_length_le (by omega), minusL, List.append_nil] at e
  exact e


end Go.Abs
