/- Limbs: which are more, sums, differences. -/
import Derived.Test.YtboekagofficpaaGreatP1
set_option linter.unusedVariables false
set_option linter.unusedSimpArgs false
namespace Go.Abs
open Go Go.Proofs
set_option maxRecDepth 100000
set_option maxHeartbeats 4000000
set_option linter.unusedSimpArgs false

def pl143_7 : Plan := ⟨[0, 1, 2, 3, 4, 5, 6, 7], [(8, [], [9])]⟩
theorem UO.append1 {H0 H1 : Heap} {sl : Value} {l : List Int} {x : Int} (h : UO Tryz.prog H0 H1 sl l) (hle : Hle H0 H1) (hs : l.length + 1 ≤ 35184372088732) :
    aAppend Tryz.prog (H1.push (.row true 177 [.int .u32 x])) #[70, 70] sl (.slice (some ⟨H1.next, 0, none⟩) 1 1) = some (apV Tryz.prog (H1.push (.row true 177 [.int .u32 x])) #[70, 70] sl (.slice (some ⟨H1.next, 0, none⟩) 1 1), apH Tryz.prog (H1.push (.row true 177 [.int .u32 x])) #[70, 70] sl (.slice (some ⟨H1.next, 0, none⟩) 1 1)) ∧
      UO Tryz.prog H0 (apH Tryz.prog (H1.push (.row true 177 [.int .u32 x])) #[70, 70] sl (.slice (some ⟨H1.next, 0, none⟩) 1 1)) (apV Tryz.prog (H1.push (.row true 177 [.int .u32 x])) #[70, 70] sl (.slice (some ⟨H1.next, 0, none⟩) 1 1)) (l ++ [x]) ∧ Hle H0 (apH Tryz.prog (H1.push (.row true 177 [.int .u32 x])) #[70, 70] sl (.slice (some ⟨H1.next, 0, none⟩) 1 1)) := by
  have hx : U Tryz.prog (H1.push (.row true 177 [.int .u32 x])) (.slice (some ⟨H1.next, 0, none⟩) 1 1) [x] := (UO.fresh (H0 := H1) (l := [x]) Hle.rfl rfl (by simp [unk]) (by simp)).u
  have h1 : UO Tryz.prog H0 (H1.push (.row true 177 [.int .u32 x])) sl l := Ow.mono h (Hle.push0 _)
  obtain ⟨h2, h3, h4, _⟩ := h1.append (hle.push _) hx (by simpa using hs)
  exact ⟨h2, h3, h4⟩

theorem sg_lt {x y z w : Int} (h : x < y) (h' : z < w) : sg (x - y) = sg (z - w) := by simp [sg]; omega
theorem sg_gt {x y z w : Int} (h : y < x) (h' : w < z) : sg (x - y) = sg (z - w) := by simp [sg]; omega
theorem sg_len {a b : List Int} (ha : Lim a) (hb : Lim b) (ta : Top a) (tb : Top b) (h : a.length ≠ b.length) : sg ((a.length : Int) - b.length) = sg (val a - val b) := by
  rcases Nat.lt_or_gt_of_ne h with h | h
  · have := val_lt_len ha hb tb h
    simp [sg]; omega
  · have := val_lt_len hb ha ta h
    simp [sg]; omega
theorem sg_at {a b : List Int} (ha : Lim a) (hb : Lim b) (he : a.length = b.length) {k : Nat} (hk : k < a.length) (hd : a.drop (k + 1) = b.drop (k + 1)) (h : a.getD k 0 ≠ b.getD k 0) : sg (a.getD k 0 - b.getD k 0) = sg (val a - val b) := by
  rcases Int.lt_or_gt_of_ne h with h | h
  · exact sg_lt h (val_lt_at ha hb he hk hd h)
  · exact sg_gt h (val_lt_at hb ha he.symm (by omega) hd.symm h)
end Go.Abs
