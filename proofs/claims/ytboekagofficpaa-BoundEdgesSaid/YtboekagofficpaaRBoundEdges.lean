/- BoundEdges of package escarpmentlaw26 returns true at every input. The statement's own conditions and no others. -/
import Derived.Test.YtboekagofficpaaL39
import Derived.Test.YtboekagofficpaaRows
import Derived.WalkKit
import Derived.ProofKit
import Derived.OpenShut
set_option linter.unusedVariables false
set_option linter.unusedSimpArgs false
namespace Go.Proofs.Ytboekagofficpaa
open Go Go.Abs Go.ChangeShapes Go.WideShapes Go.ChangeAt Go.RowKit
namespace BoundEdges
set_option maxRecDepth 100000

theorem own : ownKnob Try.prog.godebug = none := by kernel_rfl
theorem laid : laidOutB Try.prog = true := by kernel_rfl

theorem lifted (os : Os) (started : os.Started) (H : Type) (enc : TypeId × Value → H) :
    ReturnsInHanded {} Try.checked os 4 .any (Rows.boundEdgesSpec.pre6 enc Try.prog Try.f4 Rows.boundEdgesRow.domain false) (Rows.boundEdgesSpec.post enc Try.prog Try.f4 false true false false) := by
  refine law_lifted (C := Try.checked) (n := 8) (tb := 4) own started (by kernel_rfl) Try.func4 (ChangeSpec.witness6 (enc := enc) (C := Try.checked) false ⟨#[], #[.int .u8 0, .slice none 0 0, .int .u8 0, .int .u8 0], []⟩ 8 (by kernel_rfl) (by kernel_rfl) (by kernel_rfl) (by kernel_rfl)) rfl ?_ rfl Try.underlying4 ?_ laid ?_
  · intro ds hds
    have hds2 : ds.length = 4 := hds
    match ds, hds2 with
    | [a, b, c, d], _ => exact ⟨rfl, rfl, rfl⟩
  · intro t ht
    have ht2 : t ∈ [5, 38, 5, 5] := ht
    simp only [List.mem_cons, List.not_mem_nil, or_false] at ht2
    rcases ht2 with rfl | rfl | rfl | rfl <;> exact ⟨by kernel_rfl, by kernel_rfl, of_decide_eq_true (by kernel_rfl)⟩
  · exact fun H xs hf hg => lawBoundEdges (H := H) (xs := xs) hf hg

theorem over : Rows.boundEdgesRow.holds Try.pinned (OpenSpec.ofChange Rows.boundEdgesSpec) :=
  OpenClaim.holds_of_wide 4 Try.f4 rfl rfl rfl rfl rfl rfl rfl ⟨rfl, rfl, rfl, rfl, rfl⟩ rfl rfl rfl rfl rfl (by kernel_rfl) Try.func4 (by kernel_rfl)
    (of_decide_eq_true (by kernel_rfl)) (by unfold Func.isWrapper; first | (rw [if_pos (by decide +kernel)]; kernel_rfl) | (rw [if_neg (by decide +kernel)]; exact ⟨rfl, rfl⟩))
    (fun os started H enc _ => lifted os started H enc)

theorem proved : Rows.BoundEdgesSaid := over
end BoundEdges
end Go.Proofs.Ytboekagofficpaa
