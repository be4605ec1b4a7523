/- Limbs: sums and differences. -/
import Derived.Test.YtboekagofficpaaGreatN12
set_option linter.unusedVariables false
set_option linter.unusedSimpArgs false
namespace Go.Abs
open Go Go.Proofs
set_option maxRecDepth 100000
set_option maxHeartbeats 4000000
set_option linter.unusedSimpArgs false

theorem zeros_fresh {H : Heap} {n : Nat} (hn : n < 2 ^ 62) : UO Tryz.prog H (H.push (.row true 177 (List.replicate n (.int .u32 0)))) (.slice (some ⟨H.next, 0, none⟩) 0 n) [] :=
  UO.fresh Hle.rfl rfl ⟨Nat.zero_le _, by simp, by unfold unk; omega⟩ rfl


theorem wrap_sub {x y : Int} (hx : 0 ≤ x ∧ x < 4294967296) (hy : 0 ≤ y ∧ y ≤ 4294967296) : IntKind.u64.wrap (x - y) % 4294967296 = (x - y) % 4294967296 ∧ IntKind.u64.wrap (x - y) / 9223372036854775808 = if x < y then 1 else 0 := by
  rw [wrap_u64]
  constructor
  · omega
  · split <;> omega

end Go.Abs
