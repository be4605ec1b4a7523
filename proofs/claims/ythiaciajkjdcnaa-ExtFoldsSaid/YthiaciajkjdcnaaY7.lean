/- A number's text is read back. -/
import Derived.Test.YthiaciajkjdcnaaY6
set_option linter.unusedVariables false
set_option linter.unusedSimpArgs false
namespace Go.Abs
open Go Go.Proofs
set_option maxRecDepth 100000
set_option maxHeartbeats 4000000

theorem hd_rev (l : List Int) : l.reverse.headD 0 = l.getD (l.length - 1) 0 := by
  cases l with
  | nil => rfl
  | cons a l =>
    rw [hd_getD, List.getD_eq_getElem?_getD, List.getD_eq_getElem?_getD, List.getElem?_reverse (by simp)]
    simp
theorem decL_all (n : Nat) : ((decL n).reverse.all fun x => decide (48 ≤ x ∧ x ≤ 57)) = true := by
  rw [List.all_eq_true]
  intro x hx
  have := decL_dig n x (List.mem_reverse.1 hx)
  simpa [isDig] using this
theorem txt_dgs (z : Int) : z ≠ 0 → dgs (txt z) = (decL z.natAbs).reverse ∧ ((txt z).headD 0 = 45 ↔ z < 0) ∧ (decL z.natAbs).reverse.headD 0 ≠ 48 ∧ (decL z.natAbs).reverse ≠ [] := by
  intro h
  have hn : z.natAbs ≠ 0 := by omega
  have h1 : (decL z.natAbs).reverse ≠ [] := by simpa [decL_nil] using hn
  have h2 : (decL z.natAbs).reverse.headD 0 ≠ 48 := by
    rw [hd_rev]
    rcases decL_top z.natAbs with h | h
    · exact absurd h hn
    · exact h
  have h3 : (decL z.natAbs).reverse.headD 0 ≠ 45 := by
    cases hd : (decL z.natAbs).reverse with
    | nil => exact absurd hd h1
    | cons a l =>
      have := decL_dig z.natAbs a (List.mem_reverse.1 (by rw [hd]; simp))
      unfold isDig at this
      simp only [List.headD_cons]; omega
  unfold txt
  rw [if_neg h]
  by_cases hz : z < 0
  · rw [if_pos hz]
    exact ⟨by simp [dgs], by simp [hz], h2, h1⟩
  · rw [if_neg hz]
    refine ⟨by unfold dgs; rw [if_neg h3], ?_, h2, h1⟩
    exact ⟨fun e => absurd e h3, fun e => absurd e hz⟩
theorem okN_txt (z : Int) : okN (txt z) = true := by
  by_cases h : z = 0
  · subst h; decide
  · obtain ⟨h1, h2, h3, h4⟩ := txt_dgs z h
    unfold okN
    rw [h1, decL_all]
    simp only [decide_eq_true_eq]
    exact ⟨h4, fun h => h3 h.1, trivial⟩
theorem zdN_txt (z : Int) : zdN (txt z) = z := by
  by_cases h : z = 0
  · subst h; decide
  · obtain ⟨h1, h2, h3, h4⟩ := txt_dgs z h
    unfold zdN
    rw [h1, rdL_decL]
    by_cases hz : z < 0
    · rw [if_pos (h2.2 hz)]; omega
    · rw [if_neg (fun e => hz (h2.1 e))]; omega
theorem txt_len {z : Int} {K : Nat} (h : ln z ≤ K) : (txt z).length ≤ 32 * K + 1 := by
  have h1 := decL_len (ln_lt z)
  unfold txt
  split
  · simp
  · split <;> simp <;> omega
theorem txt_inj {a b : Int} : txt a = txt b ↔ a = b := ⟨fun h => by rw [← zdN_txt a, h, zdN_txt], fun h => by rw [h]⟩
theorem chs_txt (z : Int) : chs (bsOf (txt z)) = txt z := chs_bsOf (txt_bd z)
theorem seql_txt (a b : Int) : ((bsOf (txt a)).toList == (bsOf (txt b)).toList) = decide (a = b) := by
  rw [seql, chs_txt, chs_txt]
  exact decide_eq_decide.2 txt_inj
theorem p58z {z : Int} (h : ln z ≤ 2 ^ 30) : PC Try.prog 76 [Zn z] (.string (bsOf (txt z))) := (p58 (lb_z (by omega)) h).ok (by rw [den_z])
end Go.Abs
