/-
  No cell of these rows narrows 'for every input' (looked for: loops, veiled, ifaces, maps, wideKeys, modest, calm, conditions, laid).
  DERIVED. THE GIVEN ROWS OF THIS SEAT. 10 by the template 'for every input the law returns true; each argument reads behind the call as it read before'; 0 by the template 'total and deterministic' (their statements: YtfadclnaahanmaaTotals.lean).
  GIVEN WITH THE SEED: the statements are not yours to turn. If you find one false, say at which input.
  Laid BY PROGRAM, IN A SANDBOX (cutbox-rows.mjs): the forced cells as the released guide's own fill.sh prints them over the translation c9fdcea0cc21e952… (all of the seat's roots in one cut). By AI agents, Wed Nov 11 2026. No macro, syntax, notation, axiom, sorry.
-/
import Derived.Test.YtfadclnaahanmaaChecked
import GoSem.Claim
import GoSem.ClaimJoined
import GoSem.ClaimMapViews
import Derived.JoinedTies
import Derived.KernelRfl
namespace Go.Proofs.Ytfadclnaahanmaa
/- THE CELL 'sum', in the pinned program and in every row, IS THE sha256 OF THE DUMP (.gsa) THAT YtfadclnaahanmaaProg.lean LOADS. Nothing in Lean hashes anything: it is a label: what it is worth is what the hold of that sum in a sandbox is worth. -/
noncomputable def Try.pinned : Pinned := { name := "ytfadclnaahanmaa", sum := "c9fdcea0cc21e9529f03a1346ef634835f320c26be528eb8bbd7435959815db7", checked := Try.checked }
namespace Rows
def none {H : Type} : Left H := { results := [], args := [] }

/-- 'escarpmentlaw17.TemplMakes': WHATEVER THE INPUT: true; the input reads as it did. -/
def templMakesSpec : ChangeSpec := { name := "templMakes", fn := fun _ => fun
  | [d] => { results := [.lit (.bool true)], args := [d] }
  | _ => none }
def templMakesRow : OpenClaim := { program := "ytfadclnaahanmaa", sum := "c9fdcea0cc21e9529f03a1346ef634835f320c26be528eb8bbd7435959815db7", func := "escarpment/escarpmentlaw17.TemplMakes", spec := "templMakes", unfollowed := true, recurses := true, apart := false }
def TemplMakesSaid : Prop := templMakesRow.holds Try.pinned (OpenSpec.ofChange templMakesSpec)

/-- ITS FALSE NEIGHBOUR: 'it returns false'. Refute it at one input. -/
def templMakesWrong : ChangeSpec := { name := "templMakes", fn := fun _ => fun
  | [d] => { results := [.lit (.bool false)], args := [d] }
  | _ => none }
def TemplMakesWrongFalsely : Prop := templMakesRow.holds Try.pinned (OpenSpec.ofChange templMakesWrong)

/-- 'escarpmentlaw17.TemplCounts': WHATEVER THE INPUT: true; the input reads as it did. -/
def templCountsSpec : ChangeSpec := { name := "templCounts", fn := fun _ => fun
  | [d] => { results := [.lit (.bool true)], args := [d] }
  | _ => none }
def templCountsRow : OpenClaim := { program := "ytfadclnaahanmaa", sum := "c9fdcea0cc21e9529f03a1346ef634835f320c26be528eb8bbd7435959815db7", func := "escarpment/escarpmentlaw17.TemplCounts", spec := "templCounts", unfollowed := true, recurses := true, apart := false }
def TemplCountsSaid : Prop := templCountsRow.holds Try.pinned (OpenSpec.ofChange templCountsSpec)

/-- ITS FALSE NEIGHBOUR: 'it returns false'. Refute it at one input. -/
def templCountsWrong : ChangeSpec := { name := "templCounts", fn := fun _ => fun
  | [d] => { results := [.lit (.bool false)], args := [d] }
  | _ => none }
def TemplCountsWrongFalsely : Prop := templCountsRow.holds Try.pinned (OpenSpec.ofChange templCountsWrong)

/-- 'escarpmentlaw26.BoundRounds': WHATEVER THE INPUT: true; the input reads as it did. -/
def boundRoundsSpec : ChangeSpec := { name := "boundRounds", fn := fun _ => fun
  | [d1, d2] => { results := [.lit (.bool true)], args := [d1, d2] }
  | _ => none }
def boundRoundsRow : OpenClaim := { program := "ytfadclnaahanmaa", sum := "c9fdcea0cc21e9529f03a1346ef634835f320c26be528eb8bbd7435959815db7", func := "escarpment/escarpmentlaw26.BoundRounds", spec := "boundRounds", unfollowed := true, recurses := true, apart := false }
def BoundRoundsSaid : Prop := boundRoundsRow.holds Try.pinned (OpenSpec.ofChange boundRoundsSpec)

/-- ITS FALSE NEIGHBOUR: 'it returns false'. Refute it at one input. -/
def boundRoundsWrong : ChangeSpec := { name := "boundRounds", fn := fun _ => fun
  | [d1, d2] => { results := [.lit (.bool false)], args := [d1, d2] }
  | _ => none }
def BoundRoundsWrongFalsely : Prop := boundRoundsRow.holds Try.pinned (OpenSpec.ofChange boundRoundsWrong)

/-- 'escarpmentlaw17.TemplRights': WHATEVER THE INPUT: true; the input reads as it did. -/
def templRightsSpec : ChangeSpec := { name := "templRights", fn := fun _ => fun
  | [d1, d2] => { results := [.lit (.bool true)], args := [d1, d2] }
  | _ => none }
def templRightsRow : OpenClaim := { program := "ytfadclnaahanmaa", sum := "c9fdcea0cc21e9529f03a1346ef634835f320c26be528eb8bbd7435959815db7", func := "escarpment/escarpmentlaw17.TemplRights", spec := "templRights", unfollowed := true, recurses := true, apart := false }
def TemplRightsSaid : Prop := templRightsRow.holds Try.pinned (OpenSpec.ofChange templRightsSpec)

/-- ITS FALSE NEIGHBOUR: 'it returns false'. Refute it at one input. -/
def templRightsWrong : ChangeSpec := { name := "templRights", fn := fun _ => fun
  | [d1, d2] => { results := [.lit (.bool false)], args := [d1, d2] }
  | _ => none }
def TemplRightsWrongFalsely : Prop := templRightsRow.holds Try.pinned (OpenSpec.ofChange templRightsWrong)

/-- 'escarpmentlaw17.TemplSpoilt': WHATEVER THE INPUT: true; the input reads as it did. -/
def templSpoiltSpec : ChangeSpec := { name := "templSpoilt", fn := fun _ => fun
  | [d1, d2] => { results := [.lit (.bool true)], args := [d1, d2] }
  | _ => none }
def templSpoiltRow : OpenClaim := { program := "ytfadclnaahanmaa", sum := "c9fdcea0cc21e9529f03a1346ef634835f320c26be528eb8bbd7435959815db7", func := "escarpment/escarpmentlaw17.TemplSpoilt", spec := "templSpoilt", unfollowed := true, recurses := true, apart := false }
def TemplSpoiltSaid : Prop := templSpoiltRow.holds Try.pinned (OpenSpec.ofChange templSpoiltSpec)

/-- ITS FALSE NEIGHBOUR: 'it returns false'. Refute it at one input. -/
def templSpoiltWrong : ChangeSpec := { name := "templSpoilt", fn := fun _ => fun
  | [d1, d2] => { results := [.lit (.bool false)], args := [d1, d2] }
  | _ => none }
def TemplSpoiltWrongFalsely : Prop := templSpoiltRow.holds Try.pinned (OpenSpec.ofChange templSpoiltWrong)

/-- 'escarpmentlaw17.TemplHolds': WHATEVER THE INPUT: true; the input reads as it did. -/
def templHoldsSpec : ChangeSpec := { name := "templHolds", fn := fun _ => fun
  | [d] => { results := [.lit (.bool true)], args := [d] }
  | _ => none }
def templHoldsRow : OpenClaim := { program := "ytfadclnaahanmaa", sum := "c9fdcea0cc21e9529f03a1346ef634835f320c26be528eb8bbd7435959815db7", func := "escarpment/escarpmentlaw17.TemplHolds", spec := "templHolds", unfollowed := true, recurses := true, apart := false }
def TemplHoldsSaid : Prop := templHoldsRow.holds Try.pinned (OpenSpec.ofChange templHoldsSpec)

/-- ITS FALSE NEIGHBOUR: 'it returns false'. Refute it at one input. -/
def templHoldsWrong : ChangeSpec := { name := "templHolds", fn := fun _ => fun
  | [d] => { results := [.lit (.bool false)], args := [d] }
  | _ => none }
def TemplHoldsWrongFalsely : Prop := templHoldsRow.holds Try.pinned (OpenSpec.ofChange templHoldsWrong)

/-- 'escarpmentlaw4.VecLong': WHATEVER THE INPUT: true; the input reads as it did. -/
def vecLongSpec : ChangeSpec := { name := "vecLong", fn := fun _ => fun
  | [d1, d2, d3] => { results := [.lit (.bool true)], args := [d1, d2, d3] }
  | _ => none }
def vecLongRow : OpenClaim := { program := "ytfadclnaahanmaa", sum := "c9fdcea0cc21e9529f03a1346ef634835f320c26be528eb8bbd7435959815db7", func := "escarpment/escarpmentlaw4.VecLong", spec := "vecLong", unfollowed := true, recurses := true, apart := false }
def VecLongSaid : Prop := vecLongRow.holds Try.pinned (OpenSpec.ofChange vecLongSpec)

/-- ITS FALSE NEIGHBOUR: 'it returns false'. Refute it at one input. -/
def vecLongWrong : ChangeSpec := { name := "vecLong", fn := fun _ => fun
  | [d1, d2, d3] => { results := [.lit (.bool false)], args := [d1, d2, d3] }
  | _ => none }
def VecLongWrongFalsely : Prop := vecLongRow.holds Try.pinned (OpenSpec.ofChange vecLongWrong)

/-- 'escarpmentlaw5.LpRights': WHATEVER THE INPUT: true; the input reads as it did. -/
def lpRightsSpec : ChangeSpec := { name := "lpRights", fn := fun _ => fun
  | [d1, d2] => { results := [.lit (.bool true)], args := [d1, d2] }
  | _ => none }
def lpRightsRow : OpenClaim := { program := "ytfadclnaahanmaa", sum := "c9fdcea0cc21e9529f03a1346ef634835f320c26be528eb8bbd7435959815db7", func := "escarpment/escarpmentlaw5.LpRights", spec := "lpRights", unfollowed := true, recurses := true, apart := false }
def LpRightsSaid : Prop := lpRightsRow.holds Try.pinned (OpenSpec.ofChange lpRightsSpec)

/-- ITS FALSE NEIGHBOUR: 'it returns false'. Refute it at one input. -/
def lpRightsWrong : ChangeSpec := { name := "lpRights", fn := fun _ => fun
  | [d1, d2] => { results := [.lit (.bool false)], args := [d1, d2] }
  | _ => none }
def LpRightsWrongFalsely : Prop := lpRightsRow.holds Try.pinned (OpenSpec.ofChange lpRightsWrong)

/-- 'escarpmentlaw5.LpOnes': WHATEVER THE INPUT: true; the input reads as it did. -/
def lpOnesSpec : ChangeSpec := { name := "lpOnes", fn := fun _ => fun
  | [d1, d2, d3, d4] => { results := [.lit (.bool true)], args := [d1, d2, d3, d4] }
  | _ => none }
def lpOnesRow : OpenClaim := { program := "ytfadclnaahanmaa", sum := "c9fdcea0cc21e9529f03a1346ef634835f320c26be528eb8bbd7435959815db7", func := "escarpment/escarpmentlaw5.LpOnes", spec := "lpOnes", unfollowed := true, recurses := true, apart := false }
def LpOnesSaid : Prop := lpOnesRow.holds Try.pinned (OpenSpec.ofChange lpOnesSpec)

/-- ITS FALSE NEIGHBOUR: 'it returns false'. Refute it at one input. -/
def lpOnesWrong : ChangeSpec := { name := "lpOnes", fn := fun _ => fun
  | [d1, d2, d3, d4] => { results := [.lit (.bool false)], args := [d1, d2, d3, d4] }
  | _ => none }
def LpOnesWrongFalsely : Prop := lpOnesRow.holds Try.pinned (OpenSpec.ofChange lpOnesWrong)

/-- 'escarpmentlaw5.LpMade': WHATEVER THE INPUT: true; the input reads as it did. -/
def lpMadeSpec : ChangeSpec := { name := "lpMade", fn := fun _ => fun
  | [d1, d2, d3, d4] => { results := [.lit (.bool true)], args := [d1, d2, d3, d4] }
  | _ => none }
def lpMadeRow : OpenClaim := { program := "ytfadclnaahanmaa", sum := "c9fdcea0cc21e9529f03a1346ef634835f320c26be528eb8bbd7435959815db7", func := "escarpment/escarpmentlaw5.LpMade", spec := "lpMade", unfollowed := true, recurses := true, apart := false }
def LpMadeSaid : Prop := lpMadeRow.holds Try.pinned (OpenSpec.ofChange lpMadeSpec)

/-- ITS FALSE NEIGHBOUR: 'it returns false'. Refute it at one input. -/
def lpMadeWrong : ChangeSpec := { name := "lpMade", fn := fun _ => fun
  | [d1, d2, d3, d4] => { results := [.lit (.bool false)], args := [d1, d2, d3, d4] }
  | _ => none }
def LpMadeWrongFalsely : Prop := lpMadeRow.holds Try.pinned (OpenSpec.ofChange lpMadeWrong)

/- THE SECOND FORM. 'bulk': how many values and letters a reading holds, each counted each time it is reached (what is shared counts as often as it is met; a slice's spare places count too). A statement '..UptoSaid' is the law's where the arguments, and the package variables that the reading takes, are together of bulk at most 1048576: NARROWER than '..Said'. Prove '..Said' where nothing that the law and all that it calls make is longer than what came in: it says more and counts as full. Else prove '..UptoSaid'. A law counts once. -/
mutual
def uptoBulk {H : Type} : DataW H → Nat
  | .lit (.string bytes) => bytes.length + 1
  | .lit _ => 1
  | .nil => 1
  | .ptr d => uptoBulk d + 1
  | .slice elems spare => uptoBulkAll elems + uptoBulkAll spare + 1
  | .agg parts => uptoBulkAll parts + 1
  | .iface _ d => uptoBulk d + 1
  | .map entries => uptoBulkEntries entries + 1
  | .held _ => 1
def uptoBulkAll {H : Type} : List (DataW H) → Nat
  | [] => 0
  | d :: r => uptoBulk d + uptoBulkAll r
def uptoBulkEntries {H : Type} : List (Lit × DataW H) → Nat
  | [] => 0
  | x :: r => uptoBulkEntry x + uptoBulkEntries r
def uptoBulkEntry {H : Type} : Lit × DataW H → Nat
  | (.string bytes, d) => bytes.length + uptoBulk d + 1
  | (_, d) => uptoBulk d + 1
 end
def uptoSmall : (H : Type) → List (DataW H) → Bool := fun _ ds => decide (uptoBulkAll ds ≤ 1048576)
def OpenSpec.upto (s : _root_.Go.ChangeSpec) : _root_.Go.OpenSpec := { _root_.Go.OpenSpec.ofChange s with cond := some uptoSmall }

/-- 'escarpmentlaw17.TemplMakes', WHERE WHAT IT READS IS OF BULK AT MOST 1048576: true; the input reads as it did. -/
def templMakesUptoRow : OpenClaim := { program := "ytfadclnaahanmaa", sum := "c9fdcea0cc21e9529f03a1346ef634835f320c26be528eb8bbd7435959815db7", func := "escarpment/escarpmentlaw17.TemplMakes", spec := "templMakes", unfollowed := true, recurses := true, apart := false, narrowed := true }
def TemplMakesUptoSaid : Prop := templMakesUptoRow.holds Try.pinned (OpenSpec.upto templMakesSpec)

/-- 'escarpmentlaw17.TemplCounts', WHERE WHAT IT READS IS OF BULK AT MOST 1048576: true; the input reads as it did. -/
def templCountsUptoRow : OpenClaim := { program := "ytfadclnaahanmaa", sum := "c9fdcea0cc21e9529f03a1346ef634835f320c26be528eb8bbd7435959815db7", func := "escarpment/escarpmentlaw17.TemplCounts", spec := "templCounts", unfollowed := true, recurses := true, apart := false, narrowed := true }
def TemplCountsUptoSaid : Prop := templCountsUptoRow.holds Try.pinned (OpenSpec.upto templCountsSpec)

/-- 'escarpmentlaw26.BoundRounds', WHERE WHAT IT READS IS OF BULK AT MOST 1048576: true; the input reads as it did. -/
def boundRoundsUptoRow : OpenClaim := { program := "ytfadclnaahanmaa", sum := "c9fdcea0cc21e9529f03a1346ef634835f320c26be528eb8bbd7435959815db7", func := "escarpment/escarpmentlaw26.BoundRounds", spec := "boundRounds", unfollowed := true, recurses := true, apart := false, narrowed := true }
def BoundRoundsUptoSaid : Prop := boundRoundsUptoRow.holds Try.pinned (OpenSpec.upto boundRoundsSpec)

/-- 'escarpmentlaw17.TemplRights', WHERE WHAT IT READS IS OF BULK AT MOST 1048576: true; the input reads as it did. -/
def templRightsUptoRow : OpenClaim := { program := "ytfadclnaahanmaa", sum := "c9fdcea0cc21e9529f03a1346ef634835f320c26be528eb8bbd7435959815db7", func := "escarpment/escarpmentlaw17.TemplRights", spec := "templRights", unfollowed := true, recurses := true, apart := false, narrowed := true }
def TemplRightsUptoSaid : Prop := templRightsUptoRow.holds Try.pinned (OpenSpec.upto templRightsSpec)

/-- 'escarpmentlaw17.TemplSpoilt', WHERE WHAT IT READS IS OF BULK AT MOST 1048576: true; the input reads as it did. -/
def templSpoiltUptoRow : OpenClaim := { program := "ytfadclnaahanmaa", sum := "c9fdcea0cc21e9529f03a1346ef634835f320c26be528eb8bbd7435959815db7", func := "escarpment/escarpmentlaw17.TemplSpoilt", spec := "templSpoilt", unfollowed := true, recurses := true, apart := false, narrowed := true }
def TemplSpoiltUptoSaid : Prop := templSpoiltUptoRow.holds Try.pinned (OpenSpec.upto templSpoiltSpec)

/-- 'escarpmentlaw17.TemplHolds', WHERE WHAT IT READS IS OF BULK AT MOST 1048576: true; the input reads as it did. -/
def templHoldsUptoRow : OpenClaim := { program := "ytfadclnaahanmaa", sum := "c9fdcea0cc21e9529f03a1346ef634835f320c26be528eb8bbd7435959815db7", func := "escarpment/escarpmentlaw17.TemplHolds", spec := "templHolds", unfollowed := true, recurses := true, apart := false, narrowed := true }
def TemplHoldsUptoSaid : Prop := templHoldsUptoRow.holds Try.pinned (OpenSpec.upto templHoldsSpec)

/-- 'escarpmentlaw4.VecLong', WHERE WHAT IT READS IS OF BULK AT MOST 1048576: true; the input reads as it did. -/
def vecLongUptoRow : OpenClaim := { program := "ytfadclnaahanmaa", sum := "c9fdcea0cc21e9529f03a1346ef634835f320c26be528eb8bbd7435959815db7", func := "escarpment/escarpmentlaw4.VecLong", spec := "vecLong", unfollowed := true, recurses := true, apart := false, narrowed := true }
def VecLongUptoSaid : Prop := vecLongUptoRow.holds Try.pinned (OpenSpec.upto vecLongSpec)

/-- 'escarpmentlaw5.LpRights', WHERE WHAT IT READS IS OF BULK AT MOST 1048576: true; the input reads as it did. -/
def lpRightsUptoRow : OpenClaim := { program := "ytfadclnaahanmaa", sum := "c9fdcea0cc21e9529f03a1346ef634835f320c26be528eb8bbd7435959815db7", func := "escarpment/escarpmentlaw5.LpRights", spec := "lpRights", unfollowed := true, recurses := true, apart := false, narrowed := true }
def LpRightsUptoSaid : Prop := lpRightsUptoRow.holds Try.pinned (OpenSpec.upto lpRightsSpec)

/-- 'escarpmentlaw5.LpOnes', WHERE WHAT IT READS IS OF BULK AT MOST 1048576: true; the input reads as it did. -/
def lpOnesUptoRow : OpenClaim := { program := "ytfadclnaahanmaa", sum := "c9fdcea0cc21e9529f03a1346ef634835f320c26be528eb8bbd7435959815db7", func := "escarpment/escarpmentlaw5.LpOnes", spec := "lpOnes", unfollowed := true, recurses := true, apart := false, narrowed := true }
def LpOnesUptoSaid : Prop := lpOnesUptoRow.holds Try.pinned (OpenSpec.upto lpOnesSpec)

/-- 'escarpmentlaw5.LpMade', WHERE WHAT IT READS IS OF BULK AT MOST 1048576: true; the input reads as it did. -/
def lpMadeUptoRow : OpenClaim := { program := "ytfadclnaahanmaa", sum := "c9fdcea0cc21e9529f03a1346ef634835f320c26be528eb8bbd7435959815db7", func := "escarpment/escarpmentlaw5.LpMade", spec := "lpMade", unfollowed := true, recurses := true, apart := false, narrowed := true }
def LpMadeUptoSaid : Prop := lpMadeUptoRow.holds Try.pinned (OpenSpec.upto lpMadeSpec)

end Rows
end Go.Proofs.Ytfadclnaahanmaa
