/-
  No cell of these rows narrows 'for every input' (looked for: loops, veiled, ifaces, maps, wideKeys, modest, calm, conditions, laid).
  DERIVED. THE GIVEN ROWS OF THIS SEAT. 10 by the template 'for every input the law returns true; each argument reads behind the call as it read before'; 0 by the template 'total and deterministic' (their statements: YtoahhljnnjekiaaTotals.lean).
  GIVEN WITH THE SEED: the statements are not yours to turn. If you find one false, say at which input.
  Laid BY PROGRAM, IN A SANDBOX (cutbox-rows.mjs): the forced cells as the released guide's own fill.sh prints them over the translation 7f214e9b84b629d5… (all of the seat's roots in one cut). By AI agents, Wed Nov 11 2026. No macro, syntax, notation, axiom, sorry.
-/
import Derived.Test.YtoahhljnnjekiaaChecked
import GoSem.Claim
import GoSem.ClaimJoined
import GoSem.ClaimMapViews
import Derived.JoinedTies
import Derived.KernelRfl
namespace Go.Proofs.Ytoahhljnnjekiaa
/- THE CELL 'sum', in the pinned program and in every row, IS THE sha256 OF THE DUMP (.gsa) THAT YtoahhljnnjekiaaProg.lean LOADS. Nothing in Lean hashes anything: it is a label: what it is worth is what the hold of that sum in a sandbox is worth. -/
noncomputable def Try.pinned : Pinned := { name := "ytoahhljnnjekiaa", sum := "7f214e9b84b629d51e96cd89ef5c83667bc5e802f7f856ef820d9c30aa4c12e5", checked := Try.checked }
namespace Rows
def none {H : Type} : Left H := { results := [], args := [] }

/-- 'escarpmentlaw1.NumBack': WHATEVER THE INPUT: true; the input reads as it did. -/
def numBackSpec : ChangeSpec := { name := "numBack", fn := fun _ => fun
  | [d1, d2] => { results := [.lit (.bool true)], args := [d1, d2] }
  | _ => none }
def numBackRow : OpenClaim := { program := "ytoahhljnnjekiaa", sum := "7f214e9b84b629d51e96cd89ef5c83667bc5e802f7f856ef820d9c30aa4c12e5", func := "escarpment/escarpmentlaw1.NumBack", spec := "numBack", apart := false }
def NumBackSaid : Prop := numBackRow.holds Try.pinned (OpenSpec.ofChange numBackSpec)

/-- ITS FALSE NEIGHBOUR: 'it returns false'. Refute it at one input. -/
def numBackWrong : ChangeSpec := { name := "numBack", fn := fun _ => fun
  | [d1, d2] => { results := [.lit (.bool false)], args := [d1, d2] }
  | _ => none }
def NumBackWrongFalsely : Prop := numBackRow.holds Try.pinned (OpenSpec.ofChange numBackWrong)

/-- 'escarpmentlaw2.RatForms': WHATEVER THE INPUT: true; the input reads as it did. -/
def ratFormsSpec : ChangeSpec := { name := "ratForms", fn := fun _ => fun
  | [d1, d2, d3, d4] => { results := [.lit (.bool true)], args := [d1, d2, d3, d4] }
  | _ => none }
def ratFormsRow : OpenClaim := { program := "ytoahhljnnjekiaa", sum := "7f214e9b84b629d51e96cd89ef5c83667bc5e802f7f856ef820d9c30aa4c12e5", func := "escarpment/escarpmentlaw2.RatForms", spec := "ratForms", apart := false }
def RatFormsSaid : Prop := ratFormsRow.holds Try.pinned (OpenSpec.ofChange ratFormsSpec)

/-- ITS FALSE NEIGHBOUR: 'it returns false'. Refute it at one input. -/
def ratFormsWrong : ChangeSpec := { name := "ratForms", fn := fun _ => fun
  | [d1, d2, d3, d4] => { results := [.lit (.bool false)], args := [d1, d2, d3, d4] }
  | _ => none }
def RatFormsWrongFalsely : Prop := ratFormsRow.holds Try.pinned (OpenSpec.ofChange ratFormsWrong)

/-- 'escarpmentlaw4.VecRows': WHATEVER THE INPUT: true; the input reads as it did. -/
def vecRowsSpec : ChangeSpec := { name := "vecRows", fn := fun _ => fun
  | [d1, d2, d3] => { results := [.lit (.bool true)], args := [d1, d2, d3] }
  | _ => none }
def vecRowsRow : OpenClaim := { program := "ytoahhljnnjekiaa", sum := "7f214e9b84b629d51e96cd89ef5c83667bc5e802f7f856ef820d9c30aa4c12e5", func := "escarpment/escarpmentlaw4.VecRows", spec := "vecRows", unfollowed := true, recurses := true, apart := false }
def VecRowsSaid : Prop := vecRowsRow.holds Try.pinned (OpenSpec.ofChange vecRowsSpec)

/-- ITS FALSE NEIGHBOUR: 'it returns false'. Refute it at one input. -/
def vecRowsWrong : ChangeSpec := { name := "vecRows", fn := fun _ => fun
  | [d1, d2, d3] => { results := [.lit (.bool false)], args := [d1, d2, d3] }
  | _ => none }
def VecRowsWrongFalsely : Prop := vecRowsRow.holds Try.pinned (OpenSpec.ofChange vecRowsWrong)

/-- 'escarpmentlaw4.VecSums': WHATEVER THE INPUT: true; the input reads as it did. -/
def vecSumsSpec : ChangeSpec := { name := "vecSums", fn := fun _ => fun
  | [d1, d2, d3, d4] => { results := [.lit (.bool true)], args := [d1, d2, d3, d4] }
  | _ => none }
def vecSumsRow : OpenClaim := { program := "ytoahhljnnjekiaa", sum := "7f214e9b84b629d51e96cd89ef5c83667bc5e802f7f856ef820d9c30aa4c12e5", func := "escarpment/escarpmentlaw4.VecSums", spec := "vecSums", unfollowed := true, recurses := true, apart := false }
def VecSumsSaid : Prop := vecSumsRow.holds Try.pinned (OpenSpec.ofChange vecSumsSpec)

/-- ITS FALSE NEIGHBOUR: 'it returns false'. Refute it at one input. -/
def vecSumsWrong : ChangeSpec := { name := "vecSums", fn := fun _ => fun
  | [d1, d2, d3, d4] => { results := [.lit (.bool false)], args := [d1, d2, d3, d4] }
  | _ => none }
def VecSumsWrongFalsely : Prop := vecSumsRow.holds Try.pinned (OpenSpec.ofChange vecSumsWrong)

/-- 'escarpmentlaw2.RatSteps': WHATEVER THE INPUT: true; the input reads as it did. -/
def ratStepsSpec : ChangeSpec := { name := "ratSteps", fn := fun _ => fun
  | [d] => { results := [.lit (.bool true)], args := [d] }
  | _ => none }
def ratStepsRow : OpenClaim := { program := "ytoahhljnnjekiaa", sum := "7f214e9b84b629d51e96cd89ef5c83667bc5e802f7f856ef820d9c30aa4c12e5", func := "escarpment/escarpmentlaw2.RatSteps", spec := "ratSteps", unfollowed := true, recurses := true, apart := false }
def RatStepsSaid : Prop := ratStepsRow.holds Try.pinned (OpenSpec.ofChange ratStepsSpec)

/-- ITS FALSE NEIGHBOUR: 'it returns false'. Refute it at one input. -/
def ratStepsWrong : ChangeSpec := { name := "ratSteps", fn := fun _ => fun
  | [d] => { results := [.lit (.bool false)], args := [d] }
  | _ => none }
def RatStepsWrongFalsely : Prop := ratStepsRow.holds Try.pinned (OpenSpec.ofChange ratStepsWrong)

/-- 'escarpmentlaw4.VecTables': WHATEVER THE INPUT: true; the input reads as it did. -/
def vecTablesSpec : ChangeSpec := { name := "vecTables", fn := fun _ => fun
  | [d1, d2, d3, d4] => { results := [.lit (.bool true)], args := [d1, d2, d3, d4] }
  | _ => none }
def vecTablesRow : OpenClaim := { program := "ytoahhljnnjekiaa", sum := "7f214e9b84b629d51e96cd89ef5c83667bc5e802f7f856ef820d9c30aa4c12e5", func := "escarpment/escarpmentlaw4.VecTables", spec := "vecTables", unfollowed := true, recurses := true, apart := false }
def VecTablesSaid : Prop := vecTablesRow.holds Try.pinned (OpenSpec.ofChange vecTablesSpec)

/-- ITS FALSE NEIGHBOUR: 'it returns false'. Refute it at one input. -/
def vecTablesWrong : ChangeSpec := { name := "vecTables", fn := fun _ => fun
  | [d1, d2, d3, d4] => { results := [.lit (.bool false)], args := [d1, d2, d3, d4] }
  | _ => none }
def VecTablesWrongFalsely : Prop := vecTablesRow.holds Try.pinned (OpenSpec.ofChange vecTablesWrong)

/-- 'escarpmentlaw4.VecSides': WHATEVER THE INPUT: true; the input reads as it did. -/
def vecSidesSpec : ChangeSpec := { name := "vecSides", fn := fun _ => fun
  | [d1, d2, d3] => { results := [.lit (.bool true)], args := [d1, d2, d3] }
  | _ => none }
def vecSidesRow : OpenClaim := { program := "ytoahhljnnjekiaa", sum := "7f214e9b84b629d51e96cd89ef5c83667bc5e802f7f856ef820d9c30aa4c12e5", func := "escarpment/escarpmentlaw4.VecSides", spec := "vecSides", unfollowed := true, recurses := true, apart := false }
def VecSidesSaid : Prop := vecSidesRow.holds Try.pinned (OpenSpec.ofChange vecSidesSpec)

/-- ITS FALSE NEIGHBOUR: 'it returns false'. Refute it at one input. -/
def vecSidesWrong : ChangeSpec := { name := "vecSides", fn := fun _ => fun
  | [d1, d2, d3] => { results := [.lit (.bool false)], args := [d1, d2, d3] }
  | _ => none }
def VecSidesWrongFalsely : Prop := vecSidesRow.holds Try.pinned (OpenSpec.ofChange vecSidesWrong)

/-- 'escarpmentlaw4.VecUnits': WHATEVER THE INPUT: true; the input reads as it did. -/
def vecUnitsSpec : ChangeSpec := { name := "vecUnits", fn := fun _ => fun
  | [d1, d2] => { results := [.lit (.bool true)], args := [d1, d2] }
  | _ => none }
def vecUnitsRow : OpenClaim := { program := "ytoahhljnnjekiaa", sum := "7f214e9b84b629d51e96cd89ef5c83667bc5e802f7f856ef820d9c30aa4c12e5", func := "escarpment/escarpmentlaw4.VecUnits", spec := "vecUnits", unfollowed := true, recurses := true, apart := false }
def VecUnitsSaid : Prop := vecUnitsRow.holds Try.pinned (OpenSpec.ofChange vecUnitsSpec)

/-- ITS FALSE NEIGHBOUR: 'it returns false'. Refute it at one input. -/
def vecUnitsWrong : ChangeSpec := { name := "vecUnits", fn := fun _ => fun
  | [d1, d2] => { results := [.lit (.bool false)], args := [d1, d2] }
  | _ => none }
def VecUnitsWrongFalsely : Prop := vecUnitsRow.holds Try.pinned (OpenSpec.ofChange vecUnitsWrong)

/-- 'escarpmentlaw4.VecLong': WHATEVER THE INPUT: true; the input reads as it did. -/
def vecLongSpec : ChangeSpec := { name := "vecLong", fn := fun _ => fun
  | [d1, d2, d3] => { results := [.lit (.bool true)], args := [d1, d2, d3] }
  | _ => none }
def vecLongRow : OpenClaim := { program := "ytoahhljnnjekiaa", sum := "7f214e9b84b629d51e96cd89ef5c83667bc5e802f7f856ef820d9c30aa4c12e5", func := "escarpment/escarpmentlaw4.VecLong", spec := "vecLong", unfollowed := true, recurses := true, apart := false }
def VecLongSaid : Prop := vecLongRow.holds Try.pinned (OpenSpec.ofChange vecLongSpec)

/-- ITS FALSE NEIGHBOUR: 'it returns false'. Refute it at one input. -/
def vecLongWrong : ChangeSpec := { name := "vecLong", fn := fun _ => fun
  | [d1, d2, d3] => { results := [.lit (.bool false)], args := [d1, d2, d3] }
  | _ => none }
def VecLongWrongFalsely : Prop := vecLongRow.holds Try.pinned (OpenSpec.ofChange vecLongWrong)

/-- 'escarpmentlaw2.RatTexts': WHATEVER THE INPUT: true; the input reads as it did. -/
def ratTextsSpec : ChangeSpec := { name := "ratTexts", fn := fun _ => fun
  | [d1, d2] => { results := [.lit (.bool true)], args := [d1, d2] }
  | _ => none }
def ratTextsRow : OpenClaim := { program := "ytoahhljnnjekiaa", sum := "7f214e9b84b629d51e96cd89ef5c83667bc5e802f7f856ef820d9c30aa4c12e5", func := "escarpment/escarpmentlaw2.RatTexts", spec := "ratTexts", inPlace := ["internal/bytealg.IndexByteString", "internal/bytealg.IndexString", "internal/abi.NoEscape", "internal/bytealg.MakeNoZero"], recurses := true, named := ["internal/bytealg.MaxLen"], apart := false }
def RatTextsSaid : Prop := ratTextsRow.holds Try.pinned (OpenSpec.ofChange ratTextsSpec)

/-- ITS FALSE NEIGHBOUR: 'it returns false'. Refute it at one input. -/
def ratTextsWrong : ChangeSpec := { name := "ratTexts", fn := fun _ => fun
  | [d1, d2] => { results := [.lit (.bool false)], args := [d1, d2] }
  | _ => none }
def RatTextsWrongFalsely : Prop := ratTextsRow.holds Try.pinned (OpenSpec.ofChange ratTextsWrong)

/- THE SECOND FORM. 'bulk': how many values and letters a reading holds, each counted each time it is reached (what is shared counts as often as it is met; a slice's spare places count too). A statement '..UptoSaid' is the law's where the arguments, and the package variables that the reading takes, are together of bulk at most 1048576: NARROWER than '..Said'. Prove '..Said' where nothing that the law and all that it calls make is longer than what came in: it says more and counts as full. Else prove '..UptoSaid'. A law counts once. -/
mutual
def uptoBulk {H : Type} : DataW H → Nat
  | .lit (.string bytes) => bytes.length + 1
  | .lit _ => 1
  | .nil => 1
  | .ptr d => uptoBulk d + 1
  | .slice elems spare => uptoBulkAll elems + uptoBulkAll spare + 1
  | .agg parts => uptoBulkAll parts + 1
  | .iface _ d => uptoBulk d + 1
  | .map entries => uptoBulkEntries entries + 1
  | .held _ => 1
def uptoBulkAll {H : Type} : List (DataW H) → Nat
  | [] => 0
  | d :: r => uptoBulk d + uptoBulkAll r
def uptoBulkEntries {H : Type} : List (Lit × DataW H) → Nat
  | [] => 0
  | x :: r => uptoBulkEntry x + uptoBulkEntries r
def uptoBulkEntry {H : Type} : Lit × DataW H → Nat
  | (.string bytes, d) => bytes.length + uptoBulk d + 1
  | (_, d) => uptoBulk d + 1
 end
def uptoSmall : (H : Type) → List (DataW H) → Bool := fun _ ds => decide (uptoBulkAll ds ≤ 1048576)
def OpenSpec.upto (s : _root_.Go.ChangeSpec) : _root_.Go.OpenSpec := { _root_.Go.OpenSpec.ofChange s with cond := some uptoSmall }

/-- 'escarpmentlaw1.NumBack', WHERE WHAT IT READS IS OF BULK AT MOST 1048576: true; the input reads as it did. -/
def numBackUptoRow : OpenClaim := { program := "ytoahhljnnjekiaa", sum := "7f214e9b84b629d51e96cd89ef5c83667bc5e802f7f856ef820d9c30aa4c12e5", func := "escarpment/escarpmentlaw1.NumBack", spec := "numBack", apart := false, narrowed := true }
def NumBackUptoSaid : Prop := numBackUptoRow.holds Try.pinned (OpenSpec.upto numBackSpec)

/-- 'escarpmentlaw2.RatForms', WHERE WHAT IT READS IS OF BULK AT MOST 1048576: true; the input reads as it did. -/
def ratFormsUptoRow : OpenClaim := { program := "ytoahhljnnjekiaa", sum := "7f214e9b84b629d51e96cd89ef5c83667bc5e802f7f856ef820d9c30aa4c12e5", func := "escarpment/escarpmentlaw2.RatForms", spec := "ratForms", apart := false, narrowed := true }
def RatFormsUptoSaid : Prop := ratFormsUptoRow.holds Try.pinned (OpenSpec.upto ratFormsSpec)

/-- 'escarpmentlaw4.VecRows', WHERE WHAT IT READS IS OF BULK AT MOST 1048576: true; the input reads as it did. -/
def vecRowsUptoRow : OpenClaim := { program := "ytoahhljnnjekiaa", sum := "7f214e9b84b629d51e96cd89ef5c83667bc5e802f7f856ef820d9c30aa4c12e5", func := "escarpment/escarpmentlaw4.VecRows", spec := "vecRows", unfollowed := true, recurses := true, apart := false, narrowed := true }
def VecRowsUptoSaid : Prop := vecRowsUptoRow.holds Try.pinned (OpenSpec.upto vecRowsSpec)

/-- 'escarpmentlaw4.VecSums', WHERE WHAT IT READS IS OF BULK AT MOST 1048576: true; the input reads as it did. -/
def vecSumsUptoRow : OpenClaim := { program := "ytoahhljnnjekiaa", sum := "7f214e9b84b629d51e96cd89ef5c83667bc5e802f7f856ef820d9c30aa4c12e5", func := "escarpment/escarpmentlaw4.VecSums", spec := "vecSums", unfollowed := true, recurses := true, apart := false, narrowed := true }
def VecSumsUptoSaid : Prop := vecSumsUptoRow.holds Try.pinned (OpenSpec.upto vecSumsSpec)

/-- 'escarpmentlaw2.RatSteps', WHERE WHAT IT READS IS OF BULK AT MOST 1048576: true; the input reads as it did. -/
def ratStepsUptoRow : OpenClaim := { program := "ytoahhljnnjekiaa", sum := "7f214e9b84b629d51e96cd89ef5c83667bc5e802f7f856ef820d9c30aa4c12e5", func := "escarpment/escarpmentlaw2.RatSteps", spec := "ratSteps", unfollowed := true, recurses := true, apart := false, narrowed := true }
def RatStepsUptoSaid : Prop := ratStepsUptoRow.holds Try.pinned (OpenSpec.upto ratStepsSpec)

/-- 'escarpmentlaw4.VecTables', WHERE WHAT IT READS IS OF BULK AT MOST 1048576: true; the input reads as it did. -/
def vecTablesUptoRow : OpenClaim := { program := "ytoahhljnnjekiaa", sum := "7f214e9b84b629d51e96cd89ef5c83667bc5e802f7f856ef820d9c30aa4c12e5", func := "escarpment/escarpmentlaw4.VecTables", spec := "vecTables", unfollowed := true, recurses := true, apart := false, narrowed := true }
def VecTablesUptoSaid : Prop := vecTablesUptoRow.holds Try.pinned (OpenSpec.upto vecTablesSpec)

/-- 'escarpmentlaw4.VecSides', WHERE WHAT IT READS IS OF BULK AT MOST 1048576: true; the input reads as it did. -/
def vecSidesUptoRow : OpenClaim := { program := "ytoahhljnnjekiaa", sum := "7f214e9b84b629d51e96cd89ef5c83667bc5e802f7f856ef820d9c30aa4c12e5", func := "escarpment/escarpmentlaw4.VecSides", spec := "vecSides", unfollowed := true, recurses := true, apart := false, narrowed := true }
def VecSidesUptoSaid : Prop := vecSidesUptoRow.holds Try.pinned (OpenSpec.upto vecSidesSpec)

/-- 'escarpmentlaw4.VecUnits', WHERE WHAT IT READS IS OF BULK AT MOST 1048576: true; the input reads as it did. -/
def vecUnitsUptoRow : OpenClaim := { program := "ytoahhljnnjekiaa", sum := "7f214e9b84b629d51e96cd89ef5c83667bc5e802f7f856ef820d9c30aa4c12e5", func := "escarpment/escarpmentlaw4.VecUnits", spec := "vecUnits", unfollowed := true, recurses := true, apart := false, narrowed := true }
def VecUnitsUptoSaid : Prop := vecUnitsUptoRow.holds Try.pinned (OpenSpec.upto vecUnitsSpec)

/-- 'escarpmentlaw4.VecLong', WHERE WHAT IT READS IS OF BULK AT MOST 1048576: true; the input reads as it did. -/
def vecLongUptoRow : OpenClaim := { program := "ytoahhljnnjekiaa", sum := "7f214e9b84b629d51e96cd89ef5c83667bc5e802f7f856ef820d9c30aa4c12e5", func := "escarpment/escarpmentlaw4.VecLong", spec := "vecLong", unfollowed := true, recurses := true, apart := false, narrowed := true }
def VecLongUptoSaid : Prop := vecLongUptoRow.holds Try.pinned (OpenSpec.upto vecLongSpec)

/-- 'escarpmentlaw2.RatTexts', WHERE WHAT IT READS IS OF BULK AT MOST 1048576: true; the input reads as it did. -/
def ratTextsUptoRow : OpenClaim := { program := "ytoahhljnnjekiaa", sum := "7f214e9b84b629d51e96cd89ef5c83667bc5e802f7f856ef820d9c30aa4c12e5", func := "escarpment/escarpmentlaw2.RatTexts", spec := "ratTexts", inPlace := ["internal/bytealg.IndexByteString", "internal/bytealg.IndexString", "internal/abi.NoEscape", "internal/bytealg.MakeNoZero"], recurses := true, named := ["internal/bytealg.MaxLen"], apart := false, narrowed := true }
def RatTextsUptoSaid : Prop := ratTextsUptoRow.holds Try.pinned (OpenSpec.upto ratTextsSpec)

end Rows
end Go.Proofs.Ytoahhljnnjekiaa
