/- Own slices of elements; bytes; texts. -/
import Derived.Test.YtfadclnaahanmaaQ1
import Derived.Test.YtfadclnaahanmaaX1
set_option linter.unusedVariables false
set_option linter.unusedSimpArgs false
namespace Go.Abs
open Go Go.Proofs
set_option maxRecDepth 100000
set_option maxHeartbeats 4000000

variable {α : Type} {E : En α} {P : Program} {H0 H : Heap} {el t : TypeId} {sl : Value} {l : List α}
def VO (P : Program) (E : En α) (el : TypeId) (H0 H : Heap) (sl : Value) (l : List α) : Prop := Ow P H0 H E.es el sl l.length (l.flatMap E.enc)
theorem VO.nil : VO P E el H0 H (.slice none 0 0) [] := Ow.nil
theorem VO.bump (h : VO P E el H0 H sl l) {m : Nat} (hm : H.next ≤ m) : VO P E el H0 (H.bump m) sl l := Ow.bump h hm
theorem VO.len (h : VO P E el H0 H sl l) (he : szOf P el = E.es) (ht : isSliceT P t = true) : aLen P t sl = some (.int .i64 l.length) := Sl.len (Ow.toSl h he) ht
theorem VO.isSl (h : VO P E el H0 H sl l) : isSl sl = true := Ow.isSl h
theorem VO.fz (h : VO P E el H0 H sl l) (he : szOf P el = E.es) (h0 : 0 < E.es) : FzRel P H (Vv E l) sl := .sl h0 (Ow.toSl h he) .refl
theorem VO.append1 (h : VO P E el H0 H sl l) (hle : Hle H0 H) (x : α) {i : TypeInfo} {z : Value} (ht : P.underlying t = some (.slice el)) (hi : P.info? el = some i) (hz : i.zero = some z) (hzs : z.cells.size = i.size) (hs : szOf P el = E.es) (h0 : 0 < E.es) (ho : okSrc P t = true) (h1 : (E.enc x).all (·.oneCell') = true)
    (hsm : l.length + 1 ≤ 9223372036854775807) (hb : (2 * (l.length + 1) + 200) * i.bytes ≤ 281474976710656) :
    ∃ v H', aAppend P (H.push (.row true el (E.enc x))) #[t, t] sl (.slice (some ⟨H.next, 0, none⟩) 1 1) = some (v, H') ∧ VO P E el H0 H' v (l ++ [x]) ∧ Hle H0 H' ∧ H.next ≤ H'.next := by
  have hx := Sl.row (P := P) (H := H.push (.row true el (E.enc x))) (es := E.es) (b := H.next) (off := 0) (n := 1) (c := 1) (get_push_self _ _) (by simp) (.inr hs) (.inr ⟨Nat.le_refl _, by unfold unk; omega⟩) (by rw [E.len]; omega)
  have e1 : ((E.enc x).drop 0).take (1 * E.es) = E.enc x := by rw [List.drop_zero, Nat.one_mul, List.take_of_length_le (by rw [E.len]; omega)]
  rw [e1] at hx
  have h2 : Ow P H0 (H.push (.row true el (E.enc x))) E.es el sl l.length (l.flatMap E.enc) := Ow.mono h (Hle.push0 _)
  obtain ⟨a1, a2, a3, a4, a5⟩ := Ow.append h2 (hle.push _) ht hi hz hzs hs h0 ho (Sl.lenV hx) (Sl.src hx) (by rw [E.len]; omega) h1 hsm hb
  refine ⟨_, _, a1, ?_, a3, by simp at a5; omega⟩
  unfold VO
  rw [List.length_append, List.flatMap_append, List.flatMap_singleton]
  exact a2
theorem VO.upto (h : VO P E el H0 H sl l) (ht : P.underlying t = some (.slice el)) (hz : sized P el = true) {k : IntKind} {i : Nat} (hi : i ≤ l.length) :
    ∃ sl', aSlice P H t sl none (some (.int k i)) none = some sl' ∧ VO P E el H0 H sl' (l.take i) ∧ sblk sl' = sblk sl := by
  obtain ⟨sl', h1, h2, h3, _⟩ := Ow.upto h ht hz (k := k) hi
  refine ⟨sl', h1, ?_, h3⟩
  unfold VO
  rw [List.length_take, Nat.min_eq_left hi, ← E.flat_take]
  exact h2

/-! ### bytes -/
def bsOf (l : List Int) : ByteArray := l.foldl (fun r n => r.push (UInt8.ofNat n.toNat)) ByteArray.empty
abbrev YO (H0 H : Heap) (sl : Value) (l : List Int) : Prop := VO Try.prog eY 5 H0 H sl l
end Go.Abs
