/- Templates' rows are right, and unlike. -/
import Derived.Test.YtfadclnaahanmaaM8
import Derived.Test.YtfadclnaahanmaaM5
set_option linter.unusedVariables false
set_option linter.unusedSimpArgs false
namespace Go.Abs
open Go Go.Proofs
set_option maxRecDepth 100000
set_option maxHeartbeats 4000000
theorem SmR.ok {n : Nat} {r : List RQ} (h : SmR n r) : okRow n r = true := by
  obtain ⟨f, rfl, hf⟩ := h
  refine okRow_true (by rw [rowT_len]) fun k hk => ?_
  rw [getD_eq hk]
  have e : (rowT n f)[k] = rq ((f k : Int) : Rat) := by
    have := rowT_get (f := f) (show k < n by rw [rowT_len] at hk; exact hk)
    rw [List.getElem?_eq_getElem hk] at this
    injection this
  rw [e]
  exact mayQ_q _
theorem right_sm {n : Nat} {l : List (List RQ)} (h : ∀ r ∈ l, SmR n r) (hn : n ≤ 6) : rightT (l.take 40) n = true := by
  refine rightT_true ⟨by omega, by omega, by rw [List.length_take]; omega⟩ fun s hs => ?_
  have e : rwi (l.take 40) s = (l.take 40)[s] := by unfold rwi; exact getD_eq hs
  rw [e]
  exact (h _ (List.mem_of_mem_take (List.getElem_mem hs))).ok
def toRow (L : List Int) : List RQ := L.map fun z => rq ((z : Int) : Rat)
def z1 (n i : Nat) (a : Int) : List Int := (List.range n).map fun j => if j = i then a else 0
def z2 (n i : Nat) (a : Int) (k : Nat) (b : Int) : List Int := (List.range n).map fun j => if j = k then b else if j = i then a else 0
theorem z1_row {n i : Nat} {a : Int} : toRow (z1 n i a) = r1 n i a := by unfold toRow z1 r1 rowT tab; rw [List.map_map]; rfl
theorem z2_row {n i k : Nat} {a b : Int} : toRow (z2 n i a k b) = r2 n i a k b := by unfold toRow z2 r2 rowT tab; rw [List.map_map]; rfl
def sglZ (n : Nat) : List (List Int) := (List.range n).flatMap fun i => [z1 n i 1, z1 n i (-1)]
def difZ (n : Nat) : List (List Int) := (List.range n).flatMap fun i => (List.range n).flatMap fun k => if k = i then [] else [z2 n i 1 k (-1)]
def bthZ (n : Nat) : List (List Int) := (List.range n).flatMap fun i => (List.range (n - (i + 1))).flatMap fun d => [z2 n i 1 (i + 1 + d) 1, z2 n i 1 (i + 1 + d) (-1), z2 n i (-1) (i + 1 + d) 1, z2 n i (-1) (i + 1 + d) (-1)]
theorem sgl_Z {n : Nat} : sgl n = (sglZ n).map toRow := by
  unfold sgl sglP sglZ
  rw [List.map_flatMap]
  simp only [List.map_cons, List.map_nil, z1_row]
theorem dif_Z {n : Nat} : dif n = (difZ n).map toRow := by
  unfold dif difP difI difZ
  rw [List.map_flatMap]
  congr 1; funext i
  rw [List.map_flatMap]
  congr 1; funext k
  split <;> simp [z2_row]
theorem bth_Z {n : Nat} : bth n = (bthZ n).map toRow := by
  unfold bth bthP bthI bth4 bthZ
  rw [List.map_flatMap]
  congr 1; funext i
  rw [List.map_flatMap]
  simp only [List.map_cons, List.map_nil, z2_row]
theorem toRow_inj {A B : List Int} (h : sameV (toRow A) (toRow B) = true) : A = B := by
  unfold sameV at h
  rw [Bool.and_eq_true, decide_eq_true_eq, List.all_eq_true] at h
  obtain ⟨h1, h2⟩ := h
  have hl : A.length = B.length := by simpa [toRow] using h1
  refine List.ext_getElem hl fun i hi hj => ?_
  have := h2 i (by rw [List.mem_range]; simpa [toRow] using hi)
  rw [decide_eq_true_eq] at this
  have e1 {L : List Int} {i : Nat} (h : i < L.length) : ev (toRow L) i = ((L[i] : Int) : Rat) := by
    unfold ev toRow
    rw [getD_eq (by simpa using h), List.getElem_map]
    exact vq_rq _
  rw [e1 hi, e1 hj] at this
  exact Rat.intCast_inj.1 this
theorem unlike {Z : List (List Int)} (hn : Z.Pairwise (fun a b => b ≠ a)) {i j : Nat} (hi : i < Z.length) (hj : j < i) : sameV (rwi (Z.map toRow) i) (rwi (Z.map toRow) j) = false := by
  have e {k : Nat} (hk : k < Z.length) : rwi (Z.map toRow) k = toRow Z[k] := by
    unfold rwi
    rw [getD_eq (by simpa using hk), List.getElem_map]
  rw [e hi, e (Nat.lt_trans hj hi)]
  cases h : sameV (toRow Z[i]) (toRow Z[j]) with
  | false => rfl
  | true => exact absurd (toRow_inj h) (List.pairwise_iff_getElem.1 hn j i (Nat.lt_trans hj hi) hi hj)
theorem pw_zon {w : Nat} (hw : w ≤ 6) : ((sglZ w ++ difZ w).take 40).Pairwise (fun a b => b ≠ a) := by
  have : w = 0 ∨ w = 1 ∨ w = 2 ∨ w = 3 ∨ w = 4 ∨ w = 5 ∨ w = 6 := by omega
  rcases this with rfl | rfl | rfl | rfl | rfl | rfl | rfl <;> decide +kernel
theorem pw_oct {w : Nat} (hw : w ≤ 6) : ((sglZ w ++ bthZ w).take 40).Pairwise (fun a b => b ≠ a) := by
  have : w = 0 ∨ w = 1 ∨ w = 2 ∨ w = 3 ∨ w = 4 ∨ w = 5 ∨ w = 6 := by omega
  rcases this with rfl | rfl | rfl | rfl | rfl | rfl | rfl <;> decide +kernel
theorem zon_unlike {w : Nat} (hw : w ≤ 6) {i j : Nat} (hi : i < ((sgl w ++ dif w).take 40).length) (hj : j < i) : sameV (rwi ((sgl w ++ dif w).take 40) i) (rwi ((sgl w ++ dif w).take 40) j) = false := by
  have e : (sgl w ++ dif w).take 40 = ((sglZ w ++ difZ w).take 40).map toRow := by rw [sgl_Z, dif_Z, ← List.map_append, List.map_take]
  rw [e] at hi ⊢
  exact unlike (pw_zon hw) (by simpa using hi) hj
theorem oct_unlike {w : Nat} (hw : w ≤ 6) {i j : Nat} (hi : i < ((sgl w ++ bth w).take 40).length) (hj : j < i) : sameV (rwi ((sgl w ++ bth w).take 40) i) (rwi ((sgl w ++ bth w).take 40) j) = false := by
  have e : (sgl w ++ bth w).take 40 = ((sglZ w ++ bthZ w).take 40).map toRow := by rw [sgl_Z, bth_Z, ← List.map_append, List.map_take]
  rw [e] at hi ⊢
  exact unlike (pw_oct hw) (by simpa using hi) hj
end Go.Abs
