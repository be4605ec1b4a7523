/- Numbers by what they are: sign, limbs, made, Of, To, Same. -/
import Derived.Test.YtboekagofficpaaGreatNb
import Derived.Test.YtboekagofficpaaGreatZa
set_option linter.unusedVariables false
set_option linter.unusedSimpArgs false
namespace Go.Abs
open Go Go.Proofs
set_option maxRecDepth 10000
set_option linter.unusedSimpArgs false

theorem z150 {H : Heap} {sl : Value} {ng : Bool} {l : List Int} (hu : U Tryz.prog H sl l) (hl : Lim l) (hb : l.length ≤ 35184372088732) : ACalls Tryz.prog 90 [.bool ng, sl] H fun r H' => IN H' r (if ng = true then -(val l) else val l) ∧ Hle H H' :=
  (c150 hu hl hb).mono fun r H' ⟨h1, h2⟩ => ⟨IA.in_ hl h1, h2⟩
theorem z148 {H : Heap} {v : Value} {z : Int} {K : Nat} (h : IZ H v z K) (hb : K < 2 ^ 62) : ACalls Tryz.prog 105 [v] H fun r H' => IN H' r z ∧ Hle H H' := by
  obtain ⟨ng, l, hi, hz, hk⟩ := h
  have hi' := hi
  obtain ⟨_, _, _, hl⟩ := hi'
  refine (c148 hi (by omega)).mono ?_
  rintro r H' ⟨hu, h1⟩
  refine ⟨?_, h1⟩
  rw [nz_limbs hl, nz_sign hl, hz] at hu
  exact hu
theorem trim_ofR {n : Int} (hn : -9223372036854775808 ≤ n ∧ n ≤ 9223372036854775807) : trimL (ofR n) = limbs n.natAbs :=
  limbs_trimL (lim_ofR hn) (by simp only [ofR, val]; omega)
theorem z53 {H : Heap} {n : Int} (hn : -9223372036854775808 ≤ n ∧ n ≤ 9223372036854775807) : ACalls Tryz.prog 57 [.int .i64 n] H fun r H' => IN H' r n ∧ Hle H H' :=
  (c53 hn).mono fun r H' ⟨h1, h2⟩ => ⟨by rw [trim_ofR hn] at h1; exact h1, h2⟩
/-- A number as an int64. -/
def toZ (z : Int) : Int × Bool := if -9223372036854775808 ≤ z ∧ z < 9223372036854775808 then (z, true) else (0, false)
theorem toR_toZ {z : Int} : toR (decide (z < 0)) (limbs z.natAbs) = toZ z := by
  unfold toR toZ
  rw [val_limbs]
  have h1 := limbs_len_lt z.natAbs
  by_cases h2 : 2 < (limbs z.natAbs).length
  · have h3 : ¬ z.natAbs < 4294967296 ^ 2 := fun h => by have := limbs_len_le 2 h; omega
    rw [if_pos h2, if_neg (by omega)]
  · rw [if_neg h2]
    by_cases h3 : z < 0
    · rw [if_pos (by simpa using h3)]
      by_cases h4 : (z.natAbs : Int) ≤ 9223372036854775808
      · rw [if_pos h4, if_pos (by omega)]; congr 1; omega
      · rw [if_neg h4, if_neg (by omega)]
    · rw [if_neg (by simpa using h3)]
      by_cases h4 : (z.natAbs : Int) < 9223372036854775808
      · rw [if_pos h4, if_pos (by omega)]; congr 1; omega
      · rw [if_neg h4, if_neg (by omega)]
end Go.Abs
