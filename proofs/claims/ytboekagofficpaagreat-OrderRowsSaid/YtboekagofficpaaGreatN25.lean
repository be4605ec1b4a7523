/- Taking away, putting back, in place. -/
import Derived.Test.YtboekagofficpaaGreatNe
import Derived.Test.YtboekagofficpaaGreatZb
set_option linter.unusedVariables false
set_option linter.unusedSimpArgs false
namespace Go.Abs
open Go Go.Proofs
set_option maxRecDepth 100000
set_option maxHeartbeats 40000000
set_option linter.unusedSimpArgs false

/-- A part of a slice: from a place on, so many. -/
def View (su sub : Value) (i m : Nat) : Prop := ∃ b off n c c', su = .slice (some ⟨b, off, none⟩) n c ∧ sub = .slice (some ⟨b, off + i, none⟩) m c'
theorem View.len {P : Program} {su sub : Value} {i m : Nat} (h : View su sub i m) {t : TypeId} (ht : isSliceT P t = true) : aLen P t sub = some (.int .i64 m) := by
  obtain ⟨b, off, n, c, c', rfl, rfl⟩ := h
  simp [aLen, ht, goInt]
theorem View.addr {P : Program} {su sub : Value} {i m : Nat} (h : View su sub i m) {t e : TypeId} (ht : P.underlying t = some (.slice e)) (hs : szOf P e = 1) (hz : sized P e = true) {k : IntKind} {j : Int} (h0 : 0 ≤ j) (h1 : j < m) :
    aIndexAddr P t sub (.int k j) = some (.pointer (some (sadr su (i + j.toNat)))) := by
  obtain ⟨b, off, n, c, c', rfl, rfl⟩ := h
  simp [aIndexAddr, ht, h0, h1, hz, hs, sadr, sblk, soff, Nat.add_assoc]
theorem Ow.window {P : Program} {H0 H : Heap} {el t : TypeId} {sl : Value} {n : Nat} {cells : List Value} (h : Ow P H0 H 1 el sl n cells) (ht : P.underlying t = some (.slice el)) (hz : sized P el = true) (hs : szOf P el = 1) {k k' : IntKind} {i j : Nat} (hij : i < j) (hj : j ≤ n) :
    ∃ sub, aSlice P H t sl (some (.int k i)) (some (.int k' j)) none = some sub ∧ View sl sub i (j - i) := by
  cases h with
  | nil => omega
  | @row b off n c cs hg hb0 hb hc hl =>
    have e1 : aBound n n (some (.int k' j)) = some j := by simp only [aBound]; rw [if_pos ⟨by omega, by omega⟩]; rfl
    have e2 : aBound 0 j (some (.int k i)) = some i := by simp only [aBound]; rw [if_pos ⟨by omega, by omega⟩]; rfl
    rcases hc with rfl | ⟨h1, h2, h3⟩
    · refine ⟨.slice (some ⟨b, off + i, none⟩) (j - i) unk, ?_, b, off, n, unk, unk, rfl, rfl⟩
      cases i with
      | zero => simp only [aSlice, ht, hz, if_true, e1, e2]; rfl
      | succ i =>
        simp only [aSlice, ht, hz, if_true, e1, e2]
        rw [if_pos (by omega)]
        simp only [hg, hs, Nat.mul_one]
        rw [if_pos (.inr trivial)]
    · have e3 : aBound n c (some (.int k' j)) = some j := by simp only [aBound]; rw [if_pos ⟨by omega, by omega⟩]; rfl
      refine ⟨.slice (some ⟨b, off + i, none⟩) (j - i) (c - i), ?_, b, off, n, c, c - i, rfl, rfl⟩
      simp only [aSlice, ht, hz, if_true]
      rw [if_neg (by omega), if_pos h2]
      simp only [e3, e2, hs, Nat.mul_one, Option.map_some]
      rw [if_neg (by omega)]
theorem UO.window {H0 H : Heap} {su : Value} {u : List Int} (h : UO Tryz.prog H0 H su u) {k k' : IntKind} {i j : Nat} (hij : i < j) (hj : j ≤ u.length) :
    ∃ sub, aSlice Tryz.prog H 70 su (some (.int k i)) (some (.int k' j)) none = some sub ∧ View su sub i (j - i) := Ow.window h Tryz.underlying70 T.z50 T.s50 hij hj

/-- Nothing but one block has turned. -/
def Only (b : Nat) (H H' : Heap) : Prop := H'.next = H.next ∧ ∀ c, c ≠ b → H'.get c = H.get c
theorem Only.rfl {b : Nat} {H : Heap} : Only b H H := ⟨Eq.refl _, fun _ _ => Eq.refl _⟩
theorem Only.wr {H H' : Heap} {sl : Value} {o : Nat} {v : Value} (h : Only (sblk sl) H H') : Only (sblk sl) H (wr H' sl o v) := ⟨by rw [wr_next]; exact h.1, fun c hc => by rw [wr_ne hc]; exact h.2 c hc⟩
theorem UO.store2 {H0 H1 : Heap} {sl : Value} {l : List Int} {o : Nat} {x : Int} (h : UO Tryz.prog H0 H1 sl l) (ho : o < l.length) :
    aStore Tryz.prog H1 177 (.pointer (some (sadr sl o))) (.int .u32 x) = some (wr H1 sl o (.int .u32 x)) ∧ UO Tryz.prog H0 (wr H1 sl o (.int .u32 x)) sl (l.set o x) := by
  refine ⟨Ow.store h T.z50 T.s50 _root_.rfl _root_.rfl (by simpa using ho), ?_⟩
  have := Ow.wr h (v := .int .u32 x) (o := o) (by simpa using ho)
  unfold UO
  rw [List.length_set, List.map_set]
  exact this

theorem and_low {x : Int} (hx : 0 ≤ x ∧ x < 18446744073709551616) : aBits .and .u64 x 4294967295 = x % 4294967296 := by
  obtain ⟨a, rfl⟩ := Int.eq_ofNat_of_zero_le hx.1
  have h1 : (BitVec.ofInt 64 (a : Int)).toNat = a := by rw [BitVec.toNat_ofInt]; omega
  have h2 : (BitVec.ofInt 64 (4294967295 : Int)).toNat = 2 ^ 32 - 1 := by decide
  show IntKind.u64.wrap (((BitVec.ofInt 64 (a : Int)) &&& (BitVec.ofInt 64 4294967295)).toNat : Int) = _
  rw [BitVec.toNat_and, h1, h2, Nat.and_two_pow_sub_one_eq_mod, wrap_u64]
  omega

end Go.Abs
