/-
  No cell of these rows narrows 'for every input' (looked for: loops, veiled, ifaces, maps, wideKeys, modest, calm, conditions, laid).
  DERIVED. THE GIVEN ROWS OF THIS SEAT. 8 by the template 'for every input the law returns true; each argument reads behind the call as it read before'; 0 by the template 'total and deterministic' (their statements: YthiaciajkjdcnaaTotals.lean).
  GIVEN WITH THE SEED: the statements are not yours to turn. If you find one false, say at which input.
  Laid BY PROGRAM, IN A SANDBOX (cutbox-rows.mjs): the forced cells as the released guide's own fill.sh prints them over the translation 4225c336f9a05bce… (all of the seat's roots in one cut). By AI agents, Wed Nov 11 2026. No macro, syntax, notation, axiom, sorry.
-/
import Derived.Test.YthiaciajkjdcnaaChecked
import GoSem.Claim
import GoSem.ClaimJoined
import GoSem.ClaimMapViews
import Derived.JoinedTies
import Derived.KernelRfl
namespace Go.Proofs.Ythiaciajkjdcnaa
/- THE CELL 'sum', in the pinned program and in every row, IS THE sha256 OF THE DUMP (.gsa) THAT YthiaciajkjdcnaaProg.lean LOADS. Nothing in Lean hashes anything: it is a label: what it is worth is what the hold of that sum in a sandbox is worth. -/
noncomputable def Try.pinned : Pinned := { name := "ythiaciajkjdcnaa", sum := "4225c336f9a05bce91bcfd7d83a41eb0f49bdd7364186f2fd3e82e310678119c", checked := Try.checked }
namespace Rows
def none {H : Type} : Left H := { results := [], args := [] }

/-- 'escarpmentlaw3.ExtTexts': WHATEVER THE INPUT: true; the input reads as it did. -/
def extTextsSpec : ChangeSpec := { name := "extTexts", fn := fun _ => fun
  | [d1, d2] => { results := [.lit (.bool true)], args := [d1, d2] }
  | _ => none }
def extTextsRow : OpenClaim := { program := "ythiaciajkjdcnaa", sum := "4225c336f9a05bce91bcfd7d83a41eb0f49bdd7364186f2fd3e82e310678119c", func := "escarpment/escarpmentlaw3.ExtTexts", spec := "extTexts", unfollowed := true, recurses := true, apart := false }
def ExtTextsSaid : Prop := extTextsRow.holds Try.pinned (OpenSpec.ofChange extTextsSpec)

/-- ITS FALSE NEIGHBOUR: 'it returns false'. Refute it at one input. -/
def extTextsWrong : ChangeSpec := { name := "extTexts", fn := fun _ => fun
  | [d1, d2] => { results := [.lit (.bool false)], args := [d1, d2] }
  | _ => none }
def ExtTextsWrongFalsely : Prop := extTextsRow.holds Try.pinned (OpenSpec.ofChange extTextsWrong)

/-- 'escarpmentlaw3.ExtOrders': WHATEVER THE INPUT: true; the input reads as it did. -/
def extOrdersSpec : ChangeSpec := { name := "extOrders", fn := fun _ => fun
  | [d1, d2, d3] => { results := [.lit (.bool true)], args := [d1, d2, d3] }
  | _ => none }
def extOrdersRow : OpenClaim := { program := "ythiaciajkjdcnaa", sum := "4225c336f9a05bce91bcfd7d83a41eb0f49bdd7364186f2fd3e82e310678119c", func := "escarpment/escarpmentlaw3.ExtOrders", spec := "extOrders", unfollowed := true, recurses := true, apart := false }
def ExtOrdersSaid : Prop := extOrdersRow.holds Try.pinned (OpenSpec.ofChange extOrdersSpec)

/-- ITS FALSE NEIGHBOUR: 'it returns false'. Refute it at one input. -/
def extOrdersWrong : ChangeSpec := { name := "extOrders", fn := fun _ => fun
  | [d1, d2, d3] => { results := [.lit (.bool false)], args := [d1, d2, d3] }
  | _ => none }
def ExtOrdersWrongFalsely : Prop := extOrdersRow.holds Try.pinned (OpenSpec.ofChange extOrdersWrong)

/-- 'escarpmentlaw3.ExtFolds': WHATEVER THE INPUT: true; the input reads as it did. -/
def extFoldsSpec : ChangeSpec := { name := "extFolds", fn := fun _ => fun
  | [d] => { results := [.lit (.bool true)], args := [d] }
  | _ => none }
def extFoldsRow : OpenClaim := { program := "ythiaciajkjdcnaa", sum := "4225c336f9a05bce91bcfd7d83a41eb0f49bdd7364186f2fd3e82e310678119c", func := "escarpment/escarpmentlaw3.ExtFolds", spec := "extFolds", unfollowed := true, recurses := true, apart := false }
def ExtFoldsSaid : Prop := extFoldsRow.holds Try.pinned (OpenSpec.ofChange extFoldsSpec)

/-- ITS FALSE NEIGHBOUR: 'it returns false'. Refute it at one input. -/
def extFoldsWrong : ChangeSpec := { name := "extFolds", fn := fun _ => fun
  | [d] => { results := [.lit (.bool false)], args := [d] }
  | _ => none }
def ExtFoldsWrongFalsely : Prop := extFoldsRow.holds Try.pinned (OpenSpec.ofChange extFoldsWrong)

/-- 'escarpmentlaw3.ExtEnds': WHATEVER THE INPUT: true; the input reads as it did. -/
def extEndsSpec : ChangeSpec := { name := "extEnds", fn := fun _ => fun
  | [d1, d2, d3] => { results := [.lit (.bool true)], args := [d1, d2, d3] }
  | _ => none }
def extEndsRow : OpenClaim := { program := "ythiaciajkjdcnaa", sum := "4225c336f9a05bce91bcfd7d83a41eb0f49bdd7364186f2fd3e82e310678119c", func := "escarpment/escarpmentlaw3.ExtEnds", spec := "extEnds", unfollowed := true, recurses := true, apart := false }
def ExtEndsSaid : Prop := extEndsRow.holds Try.pinned (OpenSpec.ofChange extEndsSpec)

/-- ITS FALSE NEIGHBOUR: 'it returns false'. Refute it at one input. -/
def extEndsWrong : ChangeSpec := { name := "extEnds", fn := fun _ => fun
  | [d1, d2, d3] => { results := [.lit (.bool false)], args := [d1, d2, d3] }
  | _ => none }
def ExtEndsWrongFalsely : Prop := extEndsRow.holds Try.pinned (OpenSpec.ofChange extEndsWrong)

/-- 'escarpmentlaw3.ExtAll': WHATEVER THE INPUT: true; the input reads as it did. -/
def extAllSpec : ChangeSpec := { name := "extAll", fn := fun _ => fun
  | [d1, d2, d3] => { results := [.lit (.bool true)], args := [d1, d2, d3] }
  | _ => none }
def extAllRow : OpenClaim := { program := "ythiaciajkjdcnaa", sum := "4225c336f9a05bce91bcfd7d83a41eb0f49bdd7364186f2fd3e82e310678119c", func := "escarpment/escarpmentlaw3.ExtAll", spec := "extAll", unfollowed := true, recurses := true, apart := false }
def ExtAllSaid : Prop := extAllRow.holds Try.pinned (OpenSpec.ofChange extAllSpec)

/-- ITS FALSE NEIGHBOUR: 'it returns false'. Refute it at one input. -/
def extAllWrong : ChangeSpec := { name := "extAll", fn := fun _ => fun
  | [d1, d2, d3] => { results := [.lit (.bool false)], args := [d1, d2, d3] }
  | _ => none }
def ExtAllWrongFalsely : Prop := extAllRow.holds Try.pinned (OpenSpec.ofChange extAllWrong)

/-- 'escarpmentlaw5.LpRights': WHATEVER THE INPUT: true; the input reads as it did. -/
def lpRightsSpec : ChangeSpec := { name := "lpRights", fn := fun _ => fun
  | [d1, d2] => { results := [.lit (.bool true)], args := [d1, d2] }
  | _ => none }
def lpRightsRow : OpenClaim := { program := "ythiaciajkjdcnaa", sum := "4225c336f9a05bce91bcfd7d83a41eb0f49bdd7364186f2fd3e82e310678119c", func := "escarpment/escarpmentlaw5.LpRights", spec := "lpRights", unfollowed := true, recurses := true, apart := false }
def LpRightsSaid : Prop := lpRightsRow.holds Try.pinned (OpenSpec.ofChange lpRightsSpec)

/-- ITS FALSE NEIGHBOUR: 'it returns false'. Refute it at one input. -/
def lpRightsWrong : ChangeSpec := { name := "lpRights", fn := fun _ => fun
  | [d1, d2] => { results := [.lit (.bool false)], args := [d1, d2] }
  | _ => none }
def LpRightsWrongFalsely : Prop := lpRightsRow.holds Try.pinned (OpenSpec.ofChange lpRightsWrong)

/-- 'escarpmentlaw5.LpOnes': WHATEVER THE INPUT: true; the input reads as it did. -/
def lpOnesSpec : ChangeSpec := { name := "lpOnes", fn := fun _ => fun
  | [d1, d2, d3, d4] => { results := [.lit (.bool true)], args := [d1, d2, d3, d4] }
  | _ => none }
def lpOnesRow : OpenClaim := { program := "ythiaciajkjdcnaa", sum := "4225c336f9a05bce91bcfd7d83a41eb0f49bdd7364186f2fd3e82e310678119c", func := "escarpment/escarpmentlaw5.LpOnes", spec := "lpOnes", unfollowed := true, recurses := true, apart := false }
def LpOnesSaid : Prop := lpOnesRow.holds Try.pinned (OpenSpec.ofChange lpOnesSpec)

/-- ITS FALSE NEIGHBOUR: 'it returns false'. Refute it at one input. -/
def lpOnesWrong : ChangeSpec := { name := "lpOnes", fn := fun _ => fun
  | [d1, d2, d3, d4] => { results := [.lit (.bool false)], args := [d1, d2, d3, d4] }
  | _ => none }
def LpOnesWrongFalsely : Prop := lpOnesRow.holds Try.pinned (OpenSpec.ofChange lpOnesWrong)

/-- 'escarpmentlaw5.LpMade': WHATEVER THE INPUT: true; the input reads as it did. -/
def lpMadeSpec : ChangeSpec := { name := "lpMade", fn := fun _ => fun
  | [d1, d2, d3, d4] => { results := [.lit (.bool true)], args := [d1, d2, d3, d4] }
  | _ => none }
def lpMadeRow : OpenClaim := { program := "ythiaciajkjdcnaa", sum := "4225c336f9a05bce91bcfd7d83a41eb0f49bdd7364186f2fd3e82e310678119c", func := "escarpment/escarpmentlaw5.LpMade", spec := "lpMade", unfollowed := true, recurses := true, apart := false }
def LpMadeSaid : Prop := lpMadeRow.holds Try.pinned (OpenSpec.ofChange lpMadeSpec)

/-- ITS FALSE NEIGHBOUR: 'it returns false'. Refute it at one input. -/
def lpMadeWrong : ChangeSpec := { name := "lpMade", fn := fun _ => fun
  | [d1, d2, d3, d4] => { results := [.lit (.bool false)], args := [d1, d2, d3, d4] }
  | _ => none }
def LpMadeWrongFalsely : Prop := lpMadeRow.holds Try.pinned (OpenSpec.ofChange lpMadeWrong)

/- THE SECOND FORM. 'bulk': how many values and letters a reading holds, each counted each time it is reached (what is shared counts as often as it is met; a slice's spare places count too). A statement '..UptoSaid' is the law's where the arguments, and the package variables that the reading takes, are together of bulk at most 1048576: NARROWER than '..Said'. Prove '..Said' where nothing that the law and all that it calls make is longer than what came in: it says more and counts as full. Else prove '..UptoSaid'. A law counts once. -/
mutual
def uptoBulk {H : Type} : DataW H → Nat
  | .lit (.string bytes) => bytes.length + 1
  | .lit _ => 1
  | .nil => 1
  | .ptr d => uptoBulk d + 1
  | .slice elems spare => uptoBulkAll elems + uptoBulkAll spare + 1
  | .agg parts => uptoBulkAll parts + 1
  | .iface _ d => uptoBulk d + 1
  | .map entries => uptoBulkEntries entries + 1
  | .held _ => 1
def uptoBulkAll {H : Type} : List (DataW H) → Nat
  | [] => 0
  | d :: r => uptoBulk d + uptoBulkAll r
def uptoBulkEntries {H : Type} : List (Lit × DataW H) → Nat
  | [] => 0
  | x :: r => uptoBulkEntry x + uptoBulkEntries r
def uptoBulkEntry {H : Type} : Lit × DataW H → Nat
  | (.string bytes, d) => bytes.length + uptoBulk d + 1
  | (_, d) => uptoBulk d + 1
 end
def uptoSmall : (H : Type) → List (DataW H) → Bool := fun _ ds => decide (uptoBulkAll ds ≤ 1048576)
def OpenSpec.upto (s : _root_.Go.ChangeSpec) : _root_.Go.OpenSpec := { _root_.Go.OpenSpec.ofChange s with cond := some uptoSmall }

/-- 'escarpmentlaw3.ExtTexts', WHERE WHAT IT READS IS OF BULK AT MOST 1048576: true; the input reads as it did. -/
def extTextsUptoRow : OpenClaim := { program := "ythiaciajkjdcnaa", sum := "4225c336f9a05bce91bcfd7d83a41eb0f49bdd7364186f2fd3e82e310678119c", func := "escarpment/escarpmentlaw3.ExtTexts", spec := "extTexts", unfollowed := true, recurses := true, apart := false, narrowed := true }
def ExtTextsUptoSaid : Prop := extTextsUptoRow.holds Try.pinned (OpenSpec.upto extTextsSpec)

/-- 'escarpmentlaw3.ExtOrders', WHERE WHAT IT READS IS OF BULK AT MOST 1048576: true; the input reads as it did. -/
def extOrdersUptoRow : OpenClaim := { program := "ythiaciajkjdcnaa", sum := "4225c336f9a05bce91bcfd7d83a41eb0f49bdd7364186f2fd3e82e310678119c", func := "escarpment/escarpmentlaw3.ExtOrders", spec := "extOrders", unfollowed := true, recurses := true, apart := false, narrowed := true }
def ExtOrdersUptoSaid : Prop := extOrdersUptoRow.holds Try.pinned (OpenSpec.upto extOrdersSpec)

/-- 'escarpmentlaw3.ExtFolds', WHERE WHAT IT READS IS OF BULK AT MOST 1048576: true; the input reads as it did. -/
def extFoldsUptoRow : OpenClaim := { program := "ythiaciajkjdcnaa", sum := "4225c336f9a05bce91bcfd7d83a41eb0f49bdd7364186f2fd3e82e310678119c", func := "escarpment/escarpmentlaw3.ExtFolds", spec := "extFolds", unfollowed := true, recurses := true, apart := false, narrowed := true }
def ExtFoldsUptoSaid : Prop := extFoldsUptoRow.holds Try.pinned (OpenSpec.upto extFoldsSpec)

/-- 'escarpmentlaw3.ExtEnds', WHERE WHAT IT READS IS OF BULK AT MOST 1048576: true; the input reads as it did. -/
def extEndsUptoRow : OpenClaim := { program := "ythiaciajkjdcnaa", sum := "4225c336f9a05bce91bcfd7d83a41eb0f49bdd7364186f2fd3e82e310678119c", func := "escarpment/escarpmentlaw3.ExtEnds", spec := "extEnds", unfollowed := true, recurses := true, apart := false, narrowed := true }
def ExtEndsUptoSaid : Prop := extEndsUptoRow.holds Try.pinned (OpenSpec.upto extEndsSpec)

/-- 'escarpmentlaw3.ExtAll', WHERE WHAT IT READS IS OF BULK AT MOST 1048576: true; the input reads as it did. -/
def extAllUptoRow : OpenClaim := { program := "ythiaciajkjdcnaa", sum := "4225c336f9a05bce91bcfd7d83a41eb0f49bdd7364186f2fd3e82e310678119c", func := "escarpment/escarpmentlaw3.ExtAll", spec := "extAll", unfollowed := true, recurses := true, apart := false, narrowed := true }
def ExtAllUptoSaid : Prop := extAllUptoRow.holds Try.pinned (OpenSpec.upto extAllSpec)

/-- 'escarpmentlaw5.LpRights', WHERE WHAT IT READS IS OF BULK AT MOST 1048576: true; the input reads as it did. -/
def lpRightsUptoRow : OpenClaim := { program := "ythiaciajkjdcnaa", sum := "4225c336f9a05bce91bcfd7d83a41eb0f49bdd7364186f2fd3e82e310678119c", func := "escarpment/escarpmentlaw5.LpRights", spec := "lpRights", unfollowed := true, recurses := true, apart := false, narrowed := true }
def LpRightsUptoSaid : Prop := lpRightsUptoRow.holds Try.pinned (OpenSpec.upto lpRightsSpec)

/-- 'escarpmentlaw5.LpOnes', WHERE WHAT IT READS IS OF BULK AT MOST 1048576: true; the input reads as it did. -/
def lpOnesUptoRow : OpenClaim := { program := "ythiaciajkjdcnaa", sum := "4225c336f9a05bce91bcfd7d83a41eb0f49bdd7364186f2fd3e82e310678119c", func := "escarpment/escarpmentlaw5.LpOnes", spec := "lpOnes", unfollowed := true, recurses := true, apart := false, narrowed := true }
def LpOnesUptoSaid : Prop := lpOnesUptoRow.holds Try.pinned (OpenSpec.upto lpOnesSpec)

/-- 'escarpmentlaw5.LpMade', WHERE WHAT IT READS IS OF BULK AT MOST 1048576: true; the input reads as it did. -/
def lpMadeUptoRow : OpenClaim := { program := "ythiaciajkjdcnaa", sum := "4225c336f9a05bce91bcfd7d83a41eb0f49bdd7364186f2fd3e82e310678119c", func := "escarpment/escarpmentlaw5.LpMade", spec := "lpMade", unfollowed := true, recurses := true, apart := false, narrowed := true }
def LpMadeUptoSaid : Prop := lpMadeUptoRow.holds Try.pinned (OpenSpec.upto lpMadeSpec)

end Rows
end Go.Proofs.Ythiaciajkjdcnaa
