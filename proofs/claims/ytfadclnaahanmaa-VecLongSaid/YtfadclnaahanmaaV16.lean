/- Rows cut to a length. -/
import Derived.Test.YtfadclnaahanmaaV15
import Derived.Test.YtfadclnaahanmaaB10
set_option linter.unusedVariables false
set_option linter.unusedSimpArgs false
namespace Go.Abs
open Go Go.Proofs
set_option maxRecDepth 100000
set_option maxHeartbeats 4000000
def plV16_96_5 : Plan := ⟨[0, 1, 2, 3, 4, 5, 6, 7, 8, 9, 10, 11, 12], [(13, [], [14])]⟩
theorem rows0 {es : Nat} {z : Value} : rFill es z 0 [] = some [] := rFill_all (vs := []) (by simp)
attribute [go_sem] rows0
def cutP (r : List RQ) (w j : Nat) : List RQ := r.take w ++ (List.range j).map fun i => rq (((w + i : Nat) : Int) : Rat)
def cutR (r : List RQ) (n : Nat) : List RQ := cutP r (min r.length n) (n - min r.length n)
def cutV (m : List (List RQ)) (n : Nat) : List (List RQ) := (List.range m.length).map fun i => cutR (rwi m i) n
theorem cutP_len {r : List RQ} {w j : Nat} (h : w ≤ r.length) : (cutP r w j).length = w + j := by unfold cutP; simp; omega
theorem cutP_zero {r : List RQ} {w : Nat} : cutP r w 0 = r.take w := by unfold cutP; simp
theorem cutP_succ {r : List RQ} {w j : Nat} : cutP r w (j + 1) = cutP r w j ++ [rq (((w + j : Nat) : Int) : Rat)] := by unfold cutP; rw [List.range_succ, List.map_append, List.append_assoc]; rfl
theorem cutR_len {r : List RQ} {n : Nat} : (cutR r n).length = n := by unfold cutR; rw [cutP_len (by omega)]; omega
theorem cutV_len {m : List (List RQ)} {n : Nat} : (cutV m n).length = m.length := by simp [cutV]
theorem rwi_cutV {m : List (List RQ)} {n j : Nat} (h : j < m.length) : rwi (cutV m n) j = cutR (rwi m j) n := by
  unfold rwi
  rw [getD_eq (by rw [cutV_len]; exact h)]
  simp [cutV, rwi]
end Go.Abs
