/- Taking away, putting back, in place. -/
import Derived.Test.YtfadclnaahanmaaNe
import Derived.Test.YtfadclnaahanmaaZb
set_option linter.unusedVariables false
set_option linter.unusedSimpArgs false
namespace Go.Abs
open Go Go.Proofs
set_option maxRecDepth 100000
set_option maxHeartbeats 40000000
set_option linter.unusedSimpArgs false

def View (su sub : Value) (i m : Nat) : Prop := ∃ b off n c c', su = .slice (some ⟨b, off, none⟩) n c ∧ sub = .slice (some ⟨b, off + i, none⟩) m c'
theorem View.len {P : Program} {su sub : Value} {i m : Nat} (h : View su sub i m) {t : TypeId} (ht : isSliceT P t = true) : aLen P t sub = some (.int .i64 m) := by
  obtain ⟨b, off, n, c, c', rfl, rfl⟩ := h
  simp [aLen, ht, goInt]
theorem View.addr {P : Program} {su sub : Value} {i m : Nat} (h : View su sub i m) {t e : TypeId} (ht : P.underlying t = some (.slice e)) (hs : szOf P e = 1) (hz : sized P e = true) {k : IntKind} {j : Int} (h0 : 0 ≤ j) (h1 : j < m) :
    aIndexAddr P t sub (.int k j) = some (.pointer (some (sadr su (i + j.toNat)))) := by
  obtain ⟨b, off, n, c, c', rfl, rfl⟩ := h
  simp [aIndexAddr, ht, h0, h1, hz, hs, sadr, sblk, soff, Nat.add_assoc]
def Only (b : Nat) (H H' : Heap) : Prop := H'.next = H.next ∧ ∀ c, c ≠ b → H'.get c = H.get c
theorem Only.rfl {b : Nat} {H : Heap} : Only b H H := ⟨Eq.refl _, fun _ _ => Eq.refl _⟩
theorem Only.wr {H H' : Heap} {sl : Value} {o : Nat} {v : Value} (h : Only (sblk sl) H H') : Only (sblk sl) H (wr H' sl o v) := ⟨by rw [wr_next]; exact h.1, fun c hc => by rw [wr_ne hc]; exact h.2 c hc⟩
end Go.Abs
