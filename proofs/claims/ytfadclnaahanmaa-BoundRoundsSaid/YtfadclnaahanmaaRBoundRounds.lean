/- BoundRounds of package escarpmentlaw26 returns true at every input. The statement's own conditions and no others. -/
import Derived.Test.YtfadclnaahanmaaL37
import Derived.Test.YtfadclnaahanmaaRows
import Derived.WalkKit
import Derived.ProofKit
import Derived.OpenShut
set_option linter.unusedVariables false
set_option linter.unusedSimpArgs false
namespace Go.Proofs.Ytfadclnaahanmaa
open Go Go.Abs Go.ChangeShapes Go.WideShapes Go.ChangeAt Go.RowKit
namespace BoundRounds
set_option maxRecDepth 100000

theorem own : ownKnob Try.prog.godebug = none := by kernel_rfl
theorem laid : laidOutB Try.prog = true := by kernel_rfl

theorem lifted (os : Os) (started : os.Started) (H : Type) (enc : TypeId × Value → H) :
    ReturnsInHanded {} Try.checked os 5 .any (Rows.boundRoundsSpec.pre6 enc Try.prog Try.f5 Rows.boundRoundsRow.domain false) (Rows.boundRoundsSpec.post enc Try.prog Try.f5 false true false false) := by
  refine law_lifted (C := Try.checked) (n := 12) (tb := 4) own started (by kernel_rfl) Try.func5 (ChangeSpec.witness6 (enc := enc) (C := Try.checked) false ⟨#[], #[.agg #[.slice none 0 0, .slice none 0 0, .slice none 0 0, .slice none 0 0], .int .i64 0], []⟩ 12 (by kernel_rfl) (by kernel_rfl) (by kernel_rfl) (by kernel_rfl)) rfl ?_ rfl Try.underlying4 ?_ laid ?_
  · intro ds hds
    have hds2 : ds.length = 2 := hds
    match ds, hds2 with
    | [a, b], _ => exact ⟨rfl, rfl, rfl⟩
  · intro t ht
    have ht2 : t ∈ [35, 3] := ht
    simp only [List.mem_cons, List.not_mem_nil, or_false] at ht2
    rcases ht2 with rfl | rfl <;> exact ⟨by kernel_rfl, by kernel_rfl, of_decide_eq_true (by kernel_rfl)⟩
  · exact fun H xs hf hg => lawBoundRounds (H := H) (xs := xs) hf hg

theorem over : Rows.boundRoundsRow.holds Try.pinned (OpenSpec.ofChange Rows.boundRoundsSpec) :=
  OpenClaim.holds_of_wide 5 Try.f5 rfl rfl rfl rfl rfl rfl rfl ⟨rfl, rfl, rfl, rfl, rfl⟩ rfl rfl rfl rfl rfl (by kernel_rfl) Try.func5 (by kernel_rfl)
    (of_decide_eq_true (by kernel_rfl)) (by unfold Func.isWrapper; first | (rw [if_pos (by decide +kernel)]; kernel_rfl) | (rw [if_neg (by decide +kernel)]; exact ⟨rfl, rfl⟩))
    (fun os started H enc _ => lifted os started H enc)

theorem proved : Rows.BoundRoundsSaid := over
end BoundRounds
end Go.Proofs.Ytfadclnaahanmaa
