/-
  No cell of these rows narrows 'for every input' (looked for: loops, veiled, ifaces, maps, wideKeys, modest, calm, conditions, laid).
  DERIVED. THE GIVEN ROWS OF THIS SEAT. 6 by the template 'for every input the law returns true; each argument reads behind the call as it read before'; 0 by the template 'total and deterministic' (their statements: YtboekagofficpaaGreatTotals.lean).
  GIVEN WITH THE SEED: the statements are not yours to turn. If you find one false, say at which input.
  Laid BY PROGRAM, IN A SANDBOX (cutbox-rows.mjs): the forced cells as the released guide's own fill.sh prints them over the translation 6e898273770faa00… (all of the seat's roots in one cut). By AI agents, Wed Nov 11 2026. No macro, syntax, notation, axiom, sorry.
-/
import Derived.Test.YtboekagofficpaaGreatChecked
import GoSem.Claim
import GoSem.ClaimJoined
import GoSem.ClaimMapViews
import Derived.JoinedTies
import Derived.KernelRfl
namespace Go.Proofs.YtboekagofficpaaGreat
/- THE CELL 'sum', in the pinned program and in every row, IS THE sha256 OF THE DUMP (.gsa) THAT YtboekagofficpaaGreatProg.lean LOADS. Nothing in Lean hashes anything: it is a label: what it is worth is what the hold of that sum in a sandbox is worth. -/
noncomputable def Tryz.pinned : Pinned := { name := "ytboekagofficpaagreat", sum := "6e898273770faa000831f2ec0d368128a354a965aab3e85f7c66a6ad30586ff6", checked := Tryz.checked }
namespace Rows
def none {H : Type} : Left H := { results := [], args := [] }

/-- 'escarpmentlaw21.OrderAll': WHATEVER THE INPUT: true; the input reads as it did. -/
def orderAllSpec : ChangeSpec := { name := "orderAll", fn := fun _ => fun
  | [d] => { results := [.lit (.bool true)], args := [d] }
  | _ => none }
def orderAllRow : OpenClaim := { program := "ytboekagofficpaagreat", sum := "6e898273770faa000831f2ec0d368128a354a965aab3e85f7c66a6ad30586ff6", func := "escarpment/escarpmentlaw21.OrderAll", spec := "orderAll", unfollowed := true, recurses := true, apart := false }
def OrderAllSaid : Prop := orderAllRow.holds Tryz.pinned (OpenSpec.ofChange orderAllSpec)

/-- ITS FALSE NEIGHBOUR: 'it returns false'. Refute it at one input. -/
def orderAllWrong : ChangeSpec := { name := "orderAll", fn := fun _ => fun
  | [d] => { results := [.lit (.bool false)], args := [d] }
  | _ => none }
def OrderAllWrongFalsely : Prop := orderAllRow.holds Tryz.pinned (OpenSpec.ofChange orderAllWrong)

/-- 'escarpmentlaw21.OrderEdges': WHATEVER THE INPUT: true; the input reads as it did. -/
def orderEdgesSpec : ChangeSpec := { name := "orderEdges", fn := fun _ => fun
  | [d1, d2] => { results := [.lit (.bool true)], args := [d1, d2] }
  | _ => none }
def orderEdgesRow : OpenClaim := { program := "ytboekagofficpaagreat", sum := "6e898273770faa000831f2ec0d368128a354a965aab3e85f7c66a6ad30586ff6", func := "escarpment/escarpmentlaw21.OrderEdges", spec := "orderEdges", unfollowed := true, recurses := true, apart := false }
def OrderEdgesSaid : Prop := orderEdgesRow.holds Tryz.pinned (OpenSpec.ofChange orderEdgesSpec)

/-- ITS FALSE NEIGHBOUR: 'it returns false'. Refute it at one input. -/
def orderEdgesWrong : ChangeSpec := { name := "orderEdges", fn := fun _ => fun
  | [d1, d2] => { results := [.lit (.bool false)], args := [d1, d2] }
  | _ => none }
def OrderEdgesWrongFalsely : Prop := orderEdgesRow.holds Tryz.pinned (OpenSpec.ofChange orderEdgesWrong)

/-- 'escarpmentlaw21.OrderBack': WHATEVER THE INPUT: true; the input reads as it did. -/
def orderBackSpec : ChangeSpec := { name := "orderBack", fn := fun _ => fun
  | [d1, d2] => { results := [.lit (.bool true)], args := [d1, d2] }
  | _ => none }
def orderBackRow : OpenClaim := { program := "ytboekagofficpaagreat", sum := "6e898273770faa000831f2ec0d368128a354a965aab3e85f7c66a6ad30586ff6", func := "escarpment/escarpmentlaw21.OrderBack", spec := "orderBack", unfollowed := true, recurses := true, apart := false }
def OrderBackSaid : Prop := orderBackRow.holds Tryz.pinned (OpenSpec.ofChange orderBackSpec)

/-- ITS FALSE NEIGHBOUR: 'it returns false'. Refute it at one input. -/
def orderBackWrong : ChangeSpec := { name := "orderBack", fn := fun _ => fun
  | [d1, d2] => { results := [.lit (.bool false)], args := [d1, d2] }
  | _ => none }
def OrderBackWrongFalsely : Prop := orderBackRow.holds Tryz.pinned (OpenSpec.ofChange orderBackWrong)

/-- 'escarpmentlaw21.OrderCircles': WHATEVER THE INPUT: true; the input reads as it did. -/
def orderCirclesSpec : ChangeSpec := { name := "orderCircles", fn := fun _ => fun
  | [d1, d2] => { results := [.lit (.bool true)], args := [d1, d2] }
  | _ => none }
def orderCirclesRow : OpenClaim := { program := "ytboekagofficpaagreat", sum := "6e898273770faa000831f2ec0d368128a354a965aab3e85f7c66a6ad30586ff6", func := "escarpment/escarpmentlaw21.OrderCircles", spec := "orderCircles", unfollowed := true, recurses := true, apart := false }
def OrderCirclesSaid : Prop := orderCirclesRow.holds Tryz.pinned (OpenSpec.ofChange orderCirclesSpec)

/-- ITS FALSE NEIGHBOUR: 'it returns false'. Refute it at one input. -/
def orderCirclesWrong : ChangeSpec := { name := "orderCircles", fn := fun _ => fun
  | [d1, d2] => { results := [.lit (.bool false)], args := [d1, d2] }
  | _ => none }
def OrderCirclesWrongFalsely : Prop := orderCirclesRow.holds Tryz.pinned (OpenSpec.ofChange orderCirclesWrong)

/-- 'escarpmentlaw21.OrderRows': WHATEVER THE INPUT: true; the input reads as it did. -/
def orderRowsSpec : ChangeSpec := { name := "orderRows", fn := fun _ => fun
  | [d1, d2] => { results := [.lit (.bool true)], args := [d1, d2] }
  | _ => none }
def orderRowsRow : OpenClaim := { program := "ytboekagofficpaagreat", sum := "6e898273770faa000831f2ec0d368128a354a965aab3e85f7c66a6ad30586ff6", func := "escarpment/escarpmentlaw21.OrderRows", spec := "orderRows", unfollowed := true, recurses := true, apart := false }
def OrderRowsSaid : Prop := orderRowsRow.holds Tryz.pinned (OpenSpec.ofChange orderRowsSpec)

/-- ITS FALSE NEIGHBOUR: 'it returns false'. Refute it at one input. -/
def orderRowsWrong : ChangeSpec := { name := "orderRows", fn := fun _ => fun
  | [d1, d2] => { results := [.lit (.bool false)], args := [d1, d2] }
  | _ => none }
def OrderRowsWrongFalsely : Prop := orderRowsRow.holds Tryz.pinned (OpenSpec.ofChange orderRowsWrong)

/-- 'escarpmentlaw21.OrderTwice': WHATEVER THE INPUT: true; the input reads as it did. -/
def orderTwiceSpec : ChangeSpec := { name := "orderTwice", fn := fun _ => fun
  | [d1, d2] => { results := [.lit (.bool true)], args := [d1, d2] }
  | _ => none }
def orderTwiceRow : OpenClaim := { program := "ytboekagofficpaagreat", sum := "6e898273770faa000831f2ec0d368128a354a965aab3e85f7c66a6ad30586ff6", func := "escarpment/escarpmentlaw21.OrderTwice", spec := "orderTwice", unfollowed := true, recurses := true, apart := false }
def OrderTwiceSaid : Prop := orderTwiceRow.holds Tryz.pinned (OpenSpec.ofChange orderTwiceSpec)

/-- ITS FALSE NEIGHBOUR: 'it returns false'. Refute it at one input. -/
def orderTwiceWrong : ChangeSpec := { name := "orderTwice", fn := fun _ => fun
  | [d1, d2] => { results := [.lit (.bool false)], args := [d1, d2] }
  | _ => none }
def OrderTwiceWrongFalsely : Prop := orderTwiceRow.holds Tryz.pinned (OpenSpec.ofChange orderTwiceWrong)

/- THE SECOND FORM. 'bulk': how many values and letters a reading holds, each counted each time it is reached (what is shared counts as often as it is met; a slice's spare places count too). A statement '..UptoSaid' is the law's where the arguments, and the package variables that the reading takes, are together of bulk at most 1048576: NARROWER than '..Said'. Prove '..Said' where nothing that the law and all that it calls make is longer than what came in: it says more and counts as full. Else prove '..UptoSaid'. A law counts once. -/
mutual
def uptoBulk {H : Type} : DataW H → Nat
  | .lit (.string bytes) => bytes.length + 1
  | .lit _ => 1
  | .nil => 1
  | .ptr d => uptoBulk d + 1
  | .slice elems spare => uptoBulkAll elems + uptoBulkAll spare + 1
  | .agg parts => uptoBulkAll parts + 1
  | .iface _ d => uptoBulk d + 1
  | .map entries => uptoBulkEntries entries + 1
  | .held _ => 1
def uptoBulkAll {H : Type} : List (DataW H) → Nat
  | [] => 0
  | d :: r => uptoBulk d + uptoBulkAll r
def uptoBulkEntries {H : Type} : List (Lit × DataW H) → Nat
  | [] => 0
  | x :: r => uptoBulkEntry x + uptoBulkEntries r
def uptoBulkEntry {H : Type} : Lit × DataW H → Nat
  | (.string bytes, d) => bytes.length + uptoBulk d + 1
  | (_, d) => uptoBulk d + 1
 end
def uptoSmall : (H : Type) → List (DataW H) → Bool := fun _ ds => decide (uptoBulkAll ds ≤ 1048576)
def OpenSpec.upto (s : _root_.Go.ChangeSpec) : _root_.Go.OpenSpec := { _root_.Go.OpenSpec.ofChange s with cond := some uptoSmall }

/-- 'escarpmentlaw21.OrderAll', WHERE WHAT IT READS IS OF BULK AT MOST 1048576: true; the input reads as it did. -/
def orderAllUptoRow : OpenClaim := { program := "ytboekagofficpaagreat", sum := "6e898273770faa000831f2ec0d368128a354a965aab3e85f7c66a6ad30586ff6", func := "escarpment/escarpmentlaw21.OrderAll", spec := "orderAll", unfollowed := true, recurses := true, apart := false, narrowed := true }
def OrderAllUptoSaid : Prop := orderAllUptoRow.holds Tryz.pinned (OpenSpec.upto orderAllSpec)

/-- 'escarpmentlaw21.OrderEdges', WHERE WHAT IT READS IS OF BULK AT MOST 1048576: true; the input reads as it did. -/
def orderEdgesUptoRow : OpenClaim := { program := "ytboekagofficpaagreat", sum := "6e898273770faa000831f2ec0d368128a354a965aab3e85f7c66a6ad30586ff6", func := "escarpment/escarpmentlaw21.OrderEdges", spec := "orderEdges", unfollowed := true, recurses := true, apart := false, narrowed := true }
def OrderEdgesUptoSaid : Prop := orderEdgesUptoRow.holds Tryz.pinned (OpenSpec.upto orderEdgesSpec)

/-- 'escarpmentlaw21.OrderBack', WHERE WHAT IT READS IS OF BULK AT MOST 1048576: true; the input reads as it did. -/
def orderBackUptoRow : OpenClaim := { program := "ytboekagofficpaagreat", sum := "6e898273770faa000831f2ec0d368128a354a965aab3e85f7c66a6ad30586ff6", func := "escarpment/escarpmentlaw21.OrderBack", spec := "orderBack", unfollowed := true, recurses := true, apart := false, narrowed := true }
def OrderBackUptoSaid : Prop := orderBackUptoRow.holds Tryz.pinned (OpenSpec.upto orderBackSpec)

/-- 'escarpmentlaw21.OrderCircles', WHERE WHAT IT READS IS OF BULK AT MOST 1048576: true; the input reads as it did. -/
def orderCirclesUptoRow : OpenClaim := { program := "ytboekagofficpaagreat", sum := "6e898273770faa000831f2ec0d368128a354a965aab3e85f7c66a6ad30586ff6", func := "escarpment/escarpmentlaw21.OrderCircles", spec := "orderCircles", unfollowed := true, recurses := true, apart := false, narrowed := true }
def OrderCirclesUptoSaid : Prop := orderCirclesUptoRow.holds Tryz.pinned (OpenSpec.upto orderCirclesSpec)

/-- 'escarpmentlaw21.OrderRows', WHERE WHAT IT READS IS OF BULK AT MOST 1048576: true; the input reads as it did. -/
def orderRowsUptoRow : OpenClaim := { program := "ytboekagofficpaagreat", sum := "6e898273770faa000831f2ec0d368128a354a965aab3e85f7c66a6ad30586ff6", func := "escarpment/escarpmentlaw21.OrderRows", spec := "orderRows", unfollowed := true, recurses := true, apart := false, narrowed := true }
def OrderRowsUptoSaid : Prop := orderRowsUptoRow.holds Tryz.pinned (OpenSpec.upto orderRowsSpec)

/-- 'escarpmentlaw21.OrderTwice', WHERE WHAT IT READS IS OF BULK AT MOST 1048576: true; the input reads as it did. -/
def orderTwiceUptoRow : OpenClaim := { program := "ytboekagofficpaagreat", sum := "6e898273770faa000831f2ec0d368128a354a965aab3e85f7c66a6ad30586ff6", func := "escarpment/escarpmentlaw21.OrderTwice", spec := "orderTwice", unfollowed := true, recurses := true, apart := false, narrowed := true }
def OrderTwiceUptoSaid : Prop := orderTwiceUptoRow.holds Tryz.pinned (OpenSpec.upto orderTwiceSpec)

end Rows
end Go.Proofs.YtboekagofficpaaGreat
