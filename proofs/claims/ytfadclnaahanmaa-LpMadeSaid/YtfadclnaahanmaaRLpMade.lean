/- LpMade of package escarpmentlaw5 returns true at every input. The statement's own conditions and no others. -/
import Derived.Test.YtfadclnaahanmaaL31
import Derived.Test.YtfadclnaahanmaaRows
import Derived.WalkKit
import Derived.ProofKit
import Derived.OpenShut
set_option linter.unusedVariables false
set_option linter.unusedSimpArgs false
namespace Go.Proofs.Ytfadclnaahanmaa
open Go Go.Abs Go.ChangeShapes Go.WideShapes Go.ChangeAt Go.RowKit
namespace LpMade
set_option maxRecDepth 100000

theorem own : ownKnob Try.prog.godebug = none := by kernel_rfl
theorem laid : laidOutB Try.prog = true := by kernel_rfl

theorem lifted (os : Os) (started : os.Started) (H : Type) (enc : TypeId × Value → H) :
    ReturnsInHanded {} Try.checked os 12 .any (Rows.lpMadeSpec.pre6 enc Try.prog Try.f12 Rows.lpMadeRow.domain false) (Rows.lpMadeSpec.post enc Try.prog Try.f12 false true false false) := by
  refine law_lifted (C := Try.checked) (n := 8) (tb := 4) own started (by kernel_rfl) Try.func12 (ChangeSpec.witness6 (enc := enc) (C := Try.checked) false ⟨#[], #[.slice none 0 0, .slice none 0 0, .int .u8 0, .int .i8 0], []⟩ 8 (by kernel_rfl) (by kernel_rfl) (by kernel_rfl) (by kernel_rfl)) rfl ?_ rfl Try.underlying4 ?_ laid ?_
  · intro ds hds
    have hds2 : ds.length = 4 := hds
    match ds, hds2 with
    | [a, b, c, d], _ => exact ⟨rfl, rfl, rfl⟩
  · intro t ht
    have ht2 : t ∈ [72, 72, 5, 73] := ht
    simp only [List.mem_cons, List.not_mem_nil, or_false] at ht2
    rcases ht2 with rfl | rfl | rfl | rfl <;> exact ⟨by kernel_rfl, by kernel_rfl, of_decide_eq_true (by kernel_rfl)⟩
  · exact fun H xs hf hg => lawLpMade (H := H) (xs := xs) hf hg

theorem over : Rows.lpMadeRow.holds Try.pinned (OpenSpec.ofChange Rows.lpMadeSpec) :=
  OpenClaim.holds_of_wide 12 Try.f12 rfl rfl rfl rfl rfl rfl rfl ⟨rfl, rfl, rfl, rfl, rfl⟩ rfl rfl rfl rfl rfl (by kernel_rfl) Try.func12 (by kernel_rfl)
    (of_decide_eq_true (by kernel_rfl)) (by unfold Func.isWrapper; first | (rw [if_pos (by decide +kernel)]; kernel_rfl) | (rw [if_neg (by decide +kernel)]; exact ⟨rfl, rfl⟩))
    (fun os started H enc _ => lifted os started H enc)

theorem proved : Rows.LpMadeSaid := over
end LpMade
end Go.Proofs.Ytfadclnaahanmaa
