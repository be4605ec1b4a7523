/- The edges of numbers are right. -/
import Derived.Test.YtboekagofficpaaGreatO18
import Derived.Test.YtboekagofficpaaGreatO4
set_option linter.unusedVariables false
set_option linter.unusedSimpArgs false
namespace Go.Abs
open Go Go.Proofs
set_option maxRecDepth 100000
set_option maxHeartbeats 4000000
def moreU (l : RW) : RW := ⟨l.locs, l.slots, l.edges ++ [⟨0, 0, 0, [], [], []⟩], l.viols⟩
theorem edg_okU {n : Int} {ns : List Int} (hn : 0 ≤ n) : okW (edgW n ns) = true ∧ okW (moreU (edgW n ns)) = true ∧ LimW (edgW n ns) ∧ SmW (edgW n ns) ∧ LimW (moreU (edgW n ns)) ∧ SmW (moreU (edgW n ns)) ∧ (edgW n ns).edges.length ≤ 40 := by
  have hM : maxLen = 9223372036854775807 := rfl
  have h12 := Int.tmod_nonneg 12 hn
  have h13 := Int.tmod_lt_of_pos n (show (0 : Int) < 12 by decide)
  have hk1 : 1 ≤ kkN n ∧ kkN n ≤ 12 := by unfold kkN; omega
  have hj : jmx ns ≤ 40 := by unfold jmx; omega
  unfold moreU edgW
  generalize kkN n = kk at *
  generalize jmx ns = jm at *
  have hE : ∀ e ∈ (edgP kk ns jm).map mkE ++ [(⟨0, 0, 0, [], [], []⟩ : RE)], ((0 ≤ e.f ∧ e.f < kk) ∧ 0 ≤ e.t ∧ e.t < kk) ∧ e.m = 0 ∧ e.g = [] ∧ e.s = [] ∧ e.p = [] := by
    intro e he
    rcases List.mem_append.1 he with he | he
    · obtain ⟨p, hp, rfl⟩ := List.mem_map.1 he
      unfold edgP at hp
      obtain ⟨i, _, rfl⟩ := List.mem_map.1 hp
      have f1 := Nat.mod_lt (ns.getD (2 * i) 0).toNat (show 0 < kk by omega)
      have f2 := Nat.mod_lt (ns.getD (2 * i + 1) 0).toNat (show 0 < kk by omega)
      unfold mkE
      dsimp only
      exact ⟨by omega, rfl, rfl, rfl, rfl⟩
    · rw [List.mem_singleton.1 he]
      exact ⟨by dsimp only; omega, rfl, rfl, rfl, rfl⟩
  have hl : ((edgP kk ns jm).map mkE).length = jm := by rw [List.length_map, edgP_len]
  have ok (e : RE) (h : ((0 ≤ e.f ∧ e.f < kk) ∧ 0 ≤ e.t ∧ e.t < kk) ∧ e.m = 0 ∧ e.g = [] ∧ e.s = [] ∧ e.p = []) : okE kk 0 e = true := by
    obtain ⟨⟨h1, h2⟩, h3, h4, h5, h6⟩ := h
    refine okE_iff.2 ⟨h1, h2, by omega, by rw [h5]; rfl, by rw [h5]; rfl, by rw [h4]; rfl⟩
  have lm (e : RE) (h : ((0 ≤ e.f ∧ e.f < kk) ∧ 0 ≤ e.t ∧ e.t < kk) ∧ e.m = 0 ∧ e.g = [] ∧ e.s = [] ∧ e.p = []) : LimE e ∧ SmE e := by
    obtain ⟨⟨h1, h2⟩, h3, h4, h5, h6⟩ := h
    have hA : LimAs [] := ⟨Nat.zero_le _, fun a ha => by cases ha⟩
    unfold LimE SmE I64
    rw [h4, h5, h6]
    exact ⟨⟨by omega, by omega, by omega, hA, hA, Nat.zero_le _⟩, ⟨fun a ha => (by cases ha), fun a ha => (by cases ha)⟩⟩
  have hE1 : ∀ e ∈ (edgP kk ns jm).map mkE, _ := fun e he => hE e (List.mem_append.2 (.inl he))
  refine ⟨?_, ?_, ⟨by rw [List.length_replicate]; omega, Nat.zero_le _, ⟨by rw [hl]; omega, fun e he => (lm e (hE1 e he)).1⟩, Nat.zero_le _, fun e he => by cases he⟩, ⟨fun e he => (lm e (hE1 e he)).2, fun e he => by cases he⟩, ⟨by rw [List.length_replicate]; omega, Nat.zero_le _, ⟨by rw [List.length_append, hl, List.length_singleton]; omega, fun e he => (lm e (hE e he)).1⟩, Nat.zero_le _, fun e he => by cases he⟩, ⟨fun e he => (lm e (hE e he)).2, fun e he => by cases he⟩, by rw [hl]; omega⟩
  · unfold okW
    dsimp only
    simp only [List.length_nil]
    rw [List.length_replicate, hl, decide_eq_true (by simp; omega), List.all_eq_true.2 fun e he => ok e (hE1 e he)]
    rfl
  · unfold okW
    dsimp only
    simp only [List.length_nil]
    rw [List.length_replicate, List.length_append, hl, List.length_singleton, decide_eq_true (by simp; omega), List.all_eq_true.2 fun e he => ok e (hE e he)]
    rfl
end Go.Abs
