/- VecSides, on values. -/
import Derived.Test.YtfadclnaahanmaaVe
set_option linter.unusedVariables false
set_option linter.unusedSimpArgs false
namespace Go.Abs
open Go Go.Proofs
set_option maxRecDepth 100000
set_option maxHeartbeats 40000000
theorem Rg.cutR {r : List RQ} {n : Nat} (h : Rg r) (hn : n ≤ 200) : Rg (cutR r n) := by
  refine ⟨by rw [cutR_len]; exact hn, fun a ha => ?_⟩
  unfold Abs.cutR cutP at ha
  rcases List.mem_append.1 ha with ha | ha
  · exact h.2 a (List.mem_of_mem_take ha)
  · obtain ⟨i, hi, rfl⟩ := List.mem_map.1 ha
    have hi := List.mem_range.1 hi
    have h1 := lq_int ((min r.length n + i : Nat) : Int)
    have h2 := ln_small (z := ((min r.length n + i : Nat) : Int)) (by omega)
    have h3 := lqn (x := (((min r.length n + i : Nat) : Int) : Rat)) (K := 1) (by omega)
    have h4 := lqd (x := (((min r.length n + i : Nat) : Int) : Rat)) (K := 1) (by omega)
    refine ⟨⟨lim_z _, lim_z _⟩, ?_⟩
    unfold gq
    simp only [Bool.or_eq_false_iff, decide_eq_false_iff_not]
    exact ⟨by show ¬ 6 < ln _; omega, by show ¬ 6 < ln _; omega⟩
theorem sides {y x : List RQ} {m : List (List RQ)} {w : Nat} (hy : y.length = m.length) (hr : okT m w) (hx : x.length = w) : dotV (leftV y m w) x = dotV y (timesV m x) := by
  unfold dotV leftV timesV
  rw [lefP_len, hy]
  have e1 : sumI w (fun i => ev (lefP y m w m.length) i * ev x i) = sumI w fun i => sumI m.length fun j => ev y j * ev (rwi m j) i * ev x i := by
    refine sumI_congr fun i hi => ?_
    unfold lefP
    rw [ev_tab hi, ← sumI_mulr]
  have e2 : sumI m.length (fun i => ev y i * ev (tab m.length fun i => dotV (rwi m i) x) i) = sumI m.length fun j => sumI w fun i => ev y j * ev (rwi m j) i * ev x i := by
    refine sumI_congr fun j hj => ?_
    rw [ev_tab hj]
    unfold dotV
    rw [hr j hj, ← sumI_mul]
    exact sumI_congr fun i _ => (Rat.mul_assoc _ _ _).symm
  rw [e1, e2, sumI_swap]
end Go.Abs
