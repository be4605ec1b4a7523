/- OrderAll of package escarpmentlaw21 returns true at every input. The statement's own conditions and no others. -/
import Derived.Test.YtboekagofficpaaGreatL288
import Derived.Test.YtboekagofficpaaGreatRows
import Derived.WalkKit
import Derived.ProofKit
import Derived.OpenShut
set_option linter.unusedVariables false
set_option linter.unusedSimpArgs false
namespace Go.Proofs.YtboekagofficpaaGreat
open Go Go.Abs Go.ChangeShapes Go.WideShapes Go.ChangeAt Go.RowKit
namespace OrderAll
set_option maxRecDepth 100000

theorem own : ownKnob Tryz.prog.godebug = none := by kernel_rfl
theorem laid : laidOutB Tryz.prog = true := by kernel_rfl

theorem lifted (os : Os) (started : os.Started) (H : Type) (enc : TypeId × Value → H) :
    ReturnsInHanded {} Tryz.checked os 3 .any (Rows.orderAllSpec.pre6 enc Tryz.prog Tryz.f3 Rows.orderAllRow.domain false) (Rows.orderAllSpec.post enc Tryz.prog Tryz.f3 false true false false) := by
  refine law_lifted (C := Tryz.checked) (n := 12) (tb := 4) own started (by kernel_rfl) Tryz.func3 (ChangeSpec.witness6 (enc := enc) (C := Tryz.checked) false ⟨#[], #[.agg #[.slice none 0 0, .slice none 0 0, .slice none 0 0, .slice none 0 0]], []⟩ 12 (by kernel_rfl) (by kernel_rfl) (by kernel_rfl) (by kernel_rfl)) rfl ?_ rfl Tryz.underlying4 ?_ laid ?_
  · intro ds hds
    have hds2 : ds.length = 1 := hds
    match ds, hds2 with
    | [a], _ => exact ⟨rfl, rfl, rfl⟩
  · intro t ht
    have ht2 : t ∈ [27] := ht
    simp only [List.mem_cons, List.not_mem_nil, or_false] at ht2
    rcases ht2 with rfl <;> exact ⟨by kernel_rfl, by kernel_rfl, of_decide_eq_true (by kernel_rfl)⟩
  · exact fun H xs hf hg => lawOrderAll (H := H) (xs := xs) hf hg

theorem over : Rows.orderAllRow.holds Tryz.pinned (OpenSpec.ofChange Rows.orderAllSpec) :=
  OpenClaim.holds_of_wide 3 Tryz.f3 rfl rfl rfl rfl rfl rfl rfl ⟨rfl, rfl, rfl, rfl, rfl⟩ rfl rfl rfl rfl rfl (by kernel_rfl) Tryz.func3 (by kernel_rfl)
    (of_decide_eq_true (by kernel_rfl)) (by unfold Func.isWrapper; first | (rw [if_pos (by decide +kernel)]; kernel_rfl) | (rw [if_neg (by decide +kernel)]; exact ⟨rfl, rfl⟩))
    (fun os started H enc _ => lifted os started H enc)

theorem proved : Rows.OrderAllSaid := over
end OrderAll
end Go.Proofs.YtboekagofficpaaGreat
