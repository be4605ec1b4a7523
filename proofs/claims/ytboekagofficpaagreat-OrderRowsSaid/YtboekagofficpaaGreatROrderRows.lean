/- OrderRows of package escarpmentlaw21 returns true at every input. The statement's own conditions and no others. -/
import Derived.Test.YtboekagofficpaaGreatLs
import Derived.Test.YtboekagofficpaaGreatRows
import Derived.WalkKit
import Derived.ProofKit
import Derived.OpenShut
set_option linter.unusedVariables false
set_option linter.unusedSimpArgs false
namespace Go.Proofs.YtboekagofficpaaGreat
open Go Go.Abs Go.ChangeShapes Go.WideShapes Go.ChangeAt Go.RowKit
namespace OrderRows
set_option maxRecDepth 100000

theorem own : ownKnob Tryz.prog.godebug = none := by kernel_rfl
theorem laid : laidOutB Tryz.prog = true := by kernel_rfl

theorem lifted (os : Os) (started : os.Started) (H : Type) (enc : TypeId × Value → H) :
    ReturnsInHanded {} Tryz.checked os 7 .any (Rows.orderRowsSpec.pre6 enc Tryz.prog Tryz.f7 Rows.orderRowsRow.domain false) (Rows.orderRowsSpec.post enc Tryz.prog Tryz.f7 false true false false) := by
  refine law_lifted (C := Tryz.checked) (n := 8) (tb := 4) own started (by kernel_rfl) Tryz.func7 (ChangeSpec.witness6 (enc := enc) (C := Tryz.checked) false ⟨#[], #[.int .u8 0, .int .u8 0], []⟩ 8 (by kernel_rfl) (by kernel_rfl) (by kernel_rfl) (by kernel_rfl)) rfl ?_ rfl Tryz.underlying4 ?_ laid ?_
  · intro ds hds
    have hds2 : ds.length = 2 := hds
    match ds, hds2 with
    | [a, b], _ => exact ⟨rfl, rfl, rfl⟩
  · intro t ht
    have ht2 : t ∈ [5, 5] := ht
    simp only [List.mem_cons, List.not_mem_nil, or_false] at ht2
    rcases ht2 with rfl | rfl <;> exact ⟨by kernel_rfl, by kernel_rfl, of_decide_eq_true (by kernel_rfl)⟩
  · exact fun H xs hf hg => lawOrderRows (H := H) (xs := xs) hf hg

theorem over : Rows.orderRowsRow.holds Tryz.pinned (OpenSpec.ofChange Rows.orderRowsSpec) :=
  OpenClaim.holds_of_wide 7 Tryz.f7 rfl rfl rfl rfl rfl rfl rfl ⟨rfl, rfl, rfl, rfl, rfl⟩ rfl rfl rfl rfl rfl (by kernel_rfl) Tryz.func7 (by kernel_rfl)
    (of_decide_eq_true (by kernel_rfl)) (by unfold Func.isWrapper; first | (rw [if_pos (by decide +kernel)]; kernel_rfl) | (rw [if_neg (by decide +kernel)]; exact ⟨rfl, rfl⟩))
    (fun os started H enc _ => lifted os started H enc)

theorem proved : Rows.OrderRowsSaid := over
end OrderRows
end Go.Proofs.YtboekagofficpaaGreat
