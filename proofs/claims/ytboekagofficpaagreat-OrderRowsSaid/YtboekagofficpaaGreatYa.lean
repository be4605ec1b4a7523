/- Joined: Y1, Y2. -/
import Derived.Test.YtboekagofficpaaGreatQ1
import Derived.Test.YtboekagofficpaaGreatX1
/- Own slices of elements; bytes; texts. -/
set_option linter.unusedVariables false
set_option linter.unusedSimpArgs false
namespace Go.Abs
open Go Go.Proofs
set_option maxRecDepth 100000
set_option maxHeartbeats 4000000

variable {α : Type} {E : En α} {P : Program} {H0 H : Heap} {el t : TypeId} {sl : Value} {l : List α}
/-- Elements in memory of one's own. -/
def VO (P : Program) (E : En α) (el : TypeId) (H0 H : Heap) (sl : Value) (l : List α) : Prop := Ow P H0 H E.es el sl l.length (l.flatMap E.enc)
theorem VO.nil : VO P E el H0 H (.slice none 0 0) [] := Ow.nil
theorem VO.bump (h : VO P E el H0 H sl l) {m : Nat} (hm : H.next ≤ m) : VO P E el H0 (H.bump m) sl l := Ow.bump h hm
theorem VO.len (h : VO P E el H0 H sl l) (he : szOf P el = E.es) (ht : isSliceT P t = true) : aLen P t sl = some (.int .i64 l.length) := Sl.len (Ow.toSl h he) ht
theorem VO.isSl (h : VO P E el H0 H sl l) : isSl sl = true := Ow.isSl h
theorem VO.fz (h : VO P E el H0 H sl l) (he : szOf P el = E.es) (h0 : 0 < E.es) : FzRel P H (Vv E l) sl := .sl h0 (Ow.toSl h he) .refl
theorem VO.append1 (h : VO P E el H0 H sl l) (hle : Hle H0 H) (x : α) {i : TypeInfo} {z : Value} (ht : P.underlying t = some (.slice el)) (hi : P.info? el = some i) (hz : i.zero = some z) (hzs : z.cells.size = i.size) (hs : szOf P el = E.es) (h0 : 0 < E.es) (ho : okSrc P t = true) (h1 : (E.enc x).all (·.oneCell') = true)
    (hsm : l.length + 1 ≤ 9223372036854775807) (hb : (2 * (l.length + 1) + 200) * i.bytes ≤ 281474976710656) :
    ∃ v H', aAppend P (H.push (.row true el (E.enc x))) #[t, t] sl (.slice (some ⟨H.next, 0, none⟩) 1 1) = some (v, H') ∧ VO P E el H0 H' v (l ++ [x]) ∧ Hle H0 H' ∧ H.next ≤ H'.next := by
  have hx := Sl.row (P := P) (H := H.push (.row true el (E.enc x))) (es := E.es) (b := H.next) (off := 0) (n := 1) (c := 1) (get_push_self _ _) (by simp) (.inr hs) (.inr ⟨Nat.le_refl _, by unfold unk; omega⟩) (by rw [E.len]; omega)
  have e1 : ((E.enc x).drop 0).take (1 * E.es) = E.enc x := by rw [List.drop_zero, Nat.one_mul, List.take_of_length_le (by rw [E.len]; omega)]
  rw [e1] at hx
  have h2 : Ow P H0 (H.push (.row true el (E.enc x))) E.es el sl l.length (l.flatMap E.enc) := Ow.mono h (Hle.push0 _)
  obtain ⟨a1, a2, a3, a4, a5⟩ := Ow.append h2 (hle.push _) ht hi hz hzs hs h0 ho (Sl.lenV hx) (Sl.src hx) (by rw [E.len]; omega) h1 hsm hb
  refine ⟨_, _, a1, ?_, a3, by simp at a5; omega⟩
  unfold VO
  rw [List.length_append, List.flatMap_append, List.flatMap_singleton]
  exact a2
theorem VO.upto (h : VO P E el H0 H sl l) (ht : P.underlying t = some (.slice el)) (hz : sized P el = true) {k : IntKind} {i : Nat} (hi : i ≤ l.length) :
    ∃ sl', aSlice P H t sl none (some (.int k i)) none = some sl' ∧ VO P E el H0 H sl' (l.take i) ∧ sblk sl' = sblk sl := by
  obtain ⟨sl', h1, h2, h3, _⟩ := Ow.upto h ht hz (k := k) hi
  refine ⟨sl', h1, ?_, h3⟩
  unfold VO
  rw [List.length_take, Nat.min_eq_left hi, ← E.flat_take]
  exact h2

/-! ### bytes -/
/-- The text of bytes. -/
def bsOf (l : List Int) : ByteArray := l.foldl (fun r n => r.push (UInt8.ofNat n.toNat)) ByteArray.empty
abbrev YO (H0 H : Heap) (sl : Value) (l : List Int) : Prop := VO Tryz.prog eY 5 H0 H sl l
theorem eY_flat (l : List Int) : l.flatMap eY.enc = l.map (.int .u8) := by
  induction l with
  | nil => rfl
  | cons x l ih => rw [List.flatMap_cons, ih]; rfl
theorem u8s_map (l : List Int) : u8s (l.map (.int .u8)) = some l := by
  induction l with
  | nil => rfl
  | cons x l ih => simp only [List.map_cons, u8s, ih, Option.map_some]
theorem YO.append1 {H0 H : Heap} {sl : Value} {l : List Int} (h : YO H0 H sl l) (hle : Hle H0 H) (x : Int) (hs : l.length ≤ 2 ^ 45) :
    ∃ v H', aAppend Tryz.prog (H.push (.row true 5 [.int .u8 x])) #[40, 40] sl (.slice (some ⟨H.next, 0, none⟩) 1 1) = some (v, H') ∧ YO H0 H' v (l ++ [x]) ∧ Hle H0 H' ∧ H.next ≤ H'.next :=
  VO.append1 h hle x Tryz.underlying40 (info_of_type Tryz.type5) (z := .int .u8 0) rfl rfl T.s5 Nat.one_pos T.o140 rfl (by omega) (by show _ * 1 ≤ _; omega)
theorem YO.bytes {H0 H : Heap} {sl : Value} {l : List Int} (h : YO H0 H sl l) (hs : isSliceT Tryz.prog 40 = true) : aConv Tryz.prog H 40 9 sl = some (.string (bsOf l)) := by
  unfold aConv
  rw [if_pos hs]
  have h2 : Ow Tryz.prog H0 H 1 5 sl l.length (l.map (.int .u8)) := by rw [← eY_flat]; exact h
  unfold aBytes
  generalize hn : l.length = n at h2
  generalize hc : l.map (Value.int .u8) = cs at h2
  cases h2 with
  | nil =>
    have : l = [] := List.length_eq_zero_iff.1 hn
    subst this
    simp only [Tryz.underlying40, Tryz.underlying9, Tryz.underlying5]
    rfl
  | @row b off n c rs hg hb0 hb hcc hl =>
    simp only [Tryz.underlying40, Tryz.underlying9, Tryz.underlying5]
    by_cases h0 : n = 0
    · have : l = [] := List.length_eq_zero_iff.1 (hn.trans h0)
      subst this
      rw [if_pos h0]; rfl
    · rw [if_neg h0]
      simp only [aCells, hg]
      rw [Nat.mul_one] at hl hc
      rw [if_pos hl, ← hc, Option.bind_some, u8s_map]
      rfl
end Go.Abs

/- slices.Reverse of bytes, in place. -/
set_option linter.unusedVariables false
set_option linter.unusedSimpArgs false
namespace Go.Abs
open Go Go.Proofs
set_option maxRecDepth 100000
set_option maxHeartbeats 4000000

section
def pl154_3 : Plan := ⟨[0, 1, 2, 3, 4, 5, 6, 7, 8, 9, 10, 11, 12], [(13, [], [14]), (15, [], [])]⟩
variable {H0 H : Heap} {sl : Value} {l : List Int}
theorem YO.s (h : YO H0 H sl l) : Sl Tryz.prog H 1 sl l.length (l.map (.int .u8)) := by
  have h2 : Ow Tryz.prog H0 H 1 5 sl l.length (l.map (.int .u8)) := by rw [← eY_flat]; exact h
  exact Ow.toSl h2 T.s5
theorem YO.addr (h : YO H0 H sl l) {k : IntKind} {i : Int} (h0 : 0 ≤ i) (h1 : i < l.length) : aIndexAddr Tryz.prog 40 sl (.int k i) = some (.pointer (some (sadr sl i.toNat))) := by
  have := Sl.addr h.s Tryz.underlying40 T.s5 T.z5 (k := k) h0 h1
  rwa [Nat.mul_one] at this
theorem YO.load (h : YO H0 H sl l) {o : Nat} (ho : o < l.length) : aLoad Tryz.prog H 5 (.pointer (some (sadr sl o))) = some (.int .u8 (l.getD o 0)) := by
  rw [Sl.load h.s T.r5 (by simpa using ho), List.getElem?_map, List.getElem?_eq_getElem ho]
  simp [List.getD_eq_getElem?_getD, List.getElem?_eq_getElem ho]
theorem YO.store (h : YO H0 H sl l) {o : Nat} {x : Int} (ho : o < l.length) :
    aStore Tryz.prog H 5 (.pointer (some (sadr sl o))) (.int .u8 x) = some (wr H sl o (.int .u8 x)) ∧ YO H0 (wr H sl o (.int .u8 x)) sl (l.set o x) := by
  have h2 : Ow Tryz.prog H0 H 1 5 sl l.length (l.map (.int .u8)) := by rw [← eY_flat]; exact h
  refine ⟨Ow.store h2 T.z5 T.s5 rfl rfl (by simpa using ho), ?_⟩
  have := Ow.wr h2 (v := .int .u8 x) (o := o) (by simpa using ho)
  show Ow Tryz.prog H0 _ 1 5 sl (l.set o x).length ((l.set o x).flatMap eY.enc)
  rw [eY_flat, List.length_set, List.map_set]
  exact this
theorem YO.hle (h : YO H0 H sl l) (hle : Hle H0 H) {o : Nat} {v : Value} (ho : o < l.length) : Hle H0 (wr H sl o v) := by
  have h2 : Ow Tryz.prog H0 H 1 5 sl l.length (l.map (.int .u8)) := by rw [← eY_flat]; exact h
  exact hle.wr (Ow.blk h2 (by omega)).1 _ _
end

/-- So many taken over from either end. -/
def rv (l : List Int) (i : Nat) : List Int := (List.range l.length).map fun k => if k < i ∨ l.length - i ≤ k then l.getD (l.length - 1 - k) 0 else l.getD k 0
theorem rv_len (l : List Int) (i : Nat) : (rv l i).length = l.length := by simp [rv]
theorem rv_get (l : List Int) (i : Nat) {k : Nat} (hk : k < l.length) : (rv l i)[k]'(by rw [rv_len]; exact hk) = if k < i ∨ l.length - i ≤ k then l.getD (l.length - 1 - k) 0 else l.getD k 0 := by simp [rv]
theorem rv_getD (l : List Int) (i : Nat) {k : Nat} (hk : k < l.length) : (rv l i).getD k 0 = if k < i ∨ l.length - i ≤ k then l.getD (l.length - 1 - k) 0 else l.getD k 0 := by
  rw [List.getD_eq_getElem?_getD, List.getElem?_eq_getElem (by rw [rv_len]; exact hk), Option.getD_some, rv_get l i hk]
theorem rv_zero (l : List Int) : rv l 0 = l := by
  refine List.ext_getElem (rv_len _ _) fun k h1 h2 => ?_
  rw [rv_get l 0 h2, if_neg (by omega), List.getD_eq_getElem?_getD, List.getElem?_eq_getElem h2]; rfl
theorem rv_step {l : List Int} {i : Nat} (hi : i + 1 < l.length - i) : ((rv l i).set i ((rv l i).getD (l.length - 1 - i) 0)).set (l.length - 1 - i) ((rv l i).getD i 0) = rv l (i + 1) := by
  rw [rv_getD l i (show l.length - 1 - i < l.length by omega), rv_getD l i (show i < l.length by omega)]
  refine List.ext_getElem (by simp [rv_len]) fun k h1 h2 => ?_
  rw [rv_len] at h2
  rw [List.getElem_set, List.getElem_set, rv_get l i h2, rv_get l (i + 1) h2]
  by_cases e1 : l.length - 1 - i = k
  · subst e1
    rw [if_pos rfl, if_neg (by omega), if_pos (by omega), show l.length - 1 - (l.length - 1 - i) = i by omega]
  · rw [if_neg e1]
    by_cases e2 : i = k
    · subst e2
      rw [if_pos rfl, if_neg (by omega), if_pos (by omega)]
    · rw [if_neg e2]
      by_cases e3 : k < i ∨ l.length - i ≤ k
      · rw [if_pos e3, if_pos (by omega)]
      · rw [if_neg e3, if_neg (by omega)]
theorem rv_end {l : List Int} {i : Nat} (hi : l.length ≤ 2 * i + 1) : rv l i = l.reverse := by
  refine List.ext_getElem (by simp [rv_len]) fun k h1 h2 => ?_
  rw [rv_len] at h1
  rw [rv_get l i h1, List.getElem_reverse]
  by_cases e : k < i ∨ l.length - i ≤ k
  · rw [if_pos e, List.getD_eq_getElem?_getD, List.getElem?_eq_getElem (by omega)]; rfl
  · rw [if_neg e, List.getD_eq_getElem?_getD, List.getElem?_eq_getElem h1, Option.getD_some]
    congr 1
    omega

end Go.Abs
