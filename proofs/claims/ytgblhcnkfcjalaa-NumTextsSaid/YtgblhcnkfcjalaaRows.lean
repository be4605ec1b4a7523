/-
  No cell of these rows narrows 'for every input' (looked for: loops, veiled, ifaces, maps, wideKeys, modest, calm, conditions, laid).
  DERIVED. THE GIVEN ROWS OF THIS SEAT. 12 by the template 'for every input the law returns true; each argument reads behind the call as it read before'; 0 by the template 'total and deterministic' (their statements: YtgblhcnkfcjalaaTotals.lean).
  GIVEN WITH THE SEED: the statements are not yours to turn. If you find one false, say at which input.
  Laid BY PROGRAM, IN A SANDBOX (cutbox-rows.mjs): the forced cells as the released guide's own fill.sh prints them over the translation 63456f12af09093b… (all of the seat's roots in one cut). By AI agents, Wed Nov 11 2026. No macro, syntax, notation, axiom, sorry.
-/
import Derived.Test.YtgblhcnkfcjalaaChecked
import GoSem.Claim
import GoSem.ClaimJoined
import GoSem.ClaimMapViews
import Derived.JoinedTies
import Derived.KernelRfl
namespace Go.Proofs.Ytgblhcnkfcjalaa
/- THE CELL 'sum', in the pinned program and in every row, IS THE sha256 OF THE DUMP (.gsa) THAT YtgblhcnkfcjalaaProg.lean LOADS. Nothing in Lean hashes anything: it is a label: what it is worth is what the hold of that sum in a sandbox is worth. -/
noncomputable def Try.pinned : Pinned := { name := "ytgblhcnkfcjalaa", sum := "63456f12af09093b814c489476845ebd06511881f1ce194fd0c63850987e883c", checked := Try.checked }
namespace Rows
def none {H : Type} : Left H := { results := [], args := [] }

/-- 'escarpmentlaw1.NumParts': WHATEVER THE INPUT: true; the input reads as it did. -/
def numPartsSpec : ChangeSpec := { name := "numParts", fn := fun _ => fun
  | [d1, d2] => { results := [.lit (.bool true)], args := [d1, d2] }
  | _ => none }
def numPartsRow : OpenClaim := { program := "ytgblhcnkfcjalaa", sum := "63456f12af09093b814c489476845ebd06511881f1ce194fd0c63850987e883c", func := "escarpment/escarpmentlaw1.NumParts", spec := "numParts", apart := false }
def NumPartsSaid : Prop := numPartsRow.holds Try.pinned (OpenSpec.ofChange numPartsSpec)

/-- ITS FALSE NEIGHBOUR: 'it returns false'. Refute it at one input. -/
def numPartsWrong : ChangeSpec := { name := "numParts", fn := fun _ => fun
  | [d1, d2] => { results := [.lit (.bool false)], args := [d1, d2] }
  | _ => none }
def NumPartsWrongFalsely : Prop := numPartsRow.holds Try.pinned (OpenSpec.ofChange numPartsWrong)

/-- 'escarpmentlaw1.NumForms': WHATEVER THE INPUT: true; the input reads as it did. -/
def numFormsSpec : ChangeSpec := { name := "numForms", fn := fun _ => fun
  | [d1, d2] => { results := [.lit (.bool true)], args := [d1, d2] }
  | _ => none }
def numFormsRow : OpenClaim := { program := "ytgblhcnkfcjalaa", sum := "63456f12af09093b814c489476845ebd06511881f1ce194fd0c63850987e883c", func := "escarpment/escarpmentlaw1.NumForms", spec := "numForms", apart := false }
def NumFormsSaid : Prop := numFormsRow.holds Try.pinned (OpenSpec.ofChange numFormsSpec)

/-- ITS FALSE NEIGHBOUR: 'it returns false'. Refute it at one input. -/
def numFormsWrong : ChangeSpec := { name := "numForms", fn := fun _ => fun
  | [d1, d2] => { results := [.lit (.bool false)], args := [d1, d2] }
  | _ => none }
def NumFormsWrongFalsely : Prop := numFormsRow.holds Try.pinned (OpenSpec.ofChange numFormsWrong)

/-- 'escarpmentlaw1.NumGcds': WHATEVER THE INPUT: true; the input reads as it did. -/
def numGcdsSpec : ChangeSpec := { name := "numGcds", fn := fun _ => fun
  | [d1, d2, d3] => { results := [.lit (.bool true)], args := [d1, d2, d3] }
  | _ => none }
def numGcdsRow : OpenClaim := { program := "ytgblhcnkfcjalaa", sum := "63456f12af09093b814c489476845ebd06511881f1ce194fd0c63850987e883c", func := "escarpment/escarpmentlaw1.NumGcds", spec := "numGcds", apart := false }
def NumGcdsSaid : Prop := numGcdsRow.holds Try.pinned (OpenSpec.ofChange numGcdsSpec)

/-- ITS FALSE NEIGHBOUR: 'it returns false'. Refute it at one input. -/
def numGcdsWrong : ChangeSpec := { name := "numGcds", fn := fun _ => fun
  | [d1, d2, d3] => { results := [.lit (.bool false)], args := [d1, d2, d3] }
  | _ => none }
def NumGcdsWrongFalsely : Prop := numGcdsRow.holds Try.pinned (OpenSpec.ofChange numGcdsWrong)

/-- 'escarpmentlaw1.NumTexts': WHATEVER THE INPUT: true; the input reads as it did. -/
def numTextsSpec : ChangeSpec := { name := "numTexts", fn := fun _ => fun
  | [d1, d2] => { results := [.lit (.bool true)], args := [d1, d2] }
  | _ => none }
def numTextsRow : OpenClaim := { program := "ytgblhcnkfcjalaa", sum := "63456f12af09093b814c489476845ebd06511881f1ce194fd0c63850987e883c", func := "escarpment/escarpmentlaw1.NumTexts", spec := "numTexts", apart := false }
def NumTextsSaid : Prop := numTextsRow.holds Try.pinned (OpenSpec.ofChange numTextsSpec)

/-- ITS FALSE NEIGHBOUR: 'it returns false'. Refute it at one input. -/
def numTextsWrong : ChangeSpec := { name := "numTexts", fn := fun _ => fun
  | [d1, d2] => { results := [.lit (.bool false)], args := [d1, d2] }
  | _ => none }
def NumTextsWrongFalsely : Prop := numTextsRow.holds Try.pinned (OpenSpec.ofChange numTextsWrong)

/-- 'escarpmentlaw1.NumRead': WHATEVER THE INPUT: true; the input reads as it did. -/
def numReadSpec : ChangeSpec := { name := "numRead", fn := fun _ => fun
  | [d1, d2] => { results := [.lit (.bool true)], args := [d1, d2] }
  | _ => none }
def numReadRow : OpenClaim := { program := "ytgblhcnkfcjalaa", sum := "63456f12af09093b814c489476845ebd06511881f1ce194fd0c63850987e883c", func := "escarpment/escarpmentlaw1.NumRead", spec := "numRead", apart := false }
def NumReadSaid : Prop := numReadRow.holds Try.pinned (OpenSpec.ofChange numReadSpec)

/-- ITS FALSE NEIGHBOUR: 'it returns false'. Refute it at one input. -/
def numReadWrong : ChangeSpec := { name := "numRead", fn := fun _ => fun
  | [d1, d2] => { results := [.lit (.bool false)], args := [d1, d2] }
  | _ => none }
def NumReadWrongFalsely : Prop := numReadRow.holds Try.pinned (OpenSpec.ofChange numReadWrong)

/-- 'escarpmentlaw1.NumPowers': WHATEVER THE INPUT: true; the input reads as it did. -/
def numPowersSpec : ChangeSpec := { name := "numPowers", fn := fun _ => fun
  | [d1, d2] => { results := [.lit (.bool true)], args := [d1, d2] }
  | _ => none }
def numPowersRow : OpenClaim := { program := "ytgblhcnkfcjalaa", sum := "63456f12af09093b814c489476845ebd06511881f1ce194fd0c63850987e883c", func := "escarpment/escarpmentlaw1.NumPowers", spec := "numPowers", apart := false }
def NumPowersSaid : Prop := numPowersRow.holds Try.pinned (OpenSpec.ofChange numPowersSpec)

/-- ITS FALSE NEIGHBOUR: 'it returns false'. Refute it at one input. -/
def numPowersWrong : ChangeSpec := { name := "numPowers", fn := fun _ => fun
  | [d1, d2] => { results := [.lit (.bool false)], args := [d1, d2] }
  | _ => none }
def NumPowersWrongFalsely : Prop := numPowersRow.holds Try.pinned (OpenSpec.ofChange numPowersWrong)

/-- 'escarpmentlaw1.NumLaws': WHATEVER THE INPUT: true; the input reads as it did. -/
def numLawsSpec : ChangeSpec := { name := "numLaws", fn := fun _ => fun
  | [d1, d2, d3] => { results := [.lit (.bool true)], args := [d1, d2, d3] }
  | _ => none }
def numLawsRow : OpenClaim := { program := "ytgblhcnkfcjalaa", sum := "63456f12af09093b814c489476845ebd06511881f1ce194fd0c63850987e883c", func := "escarpment/escarpmentlaw1.NumLaws", spec := "numLaws", apart := false }
def NumLawsSaid : Prop := numLawsRow.holds Try.pinned (OpenSpec.ofChange numLawsSpec)

/-- ITS FALSE NEIGHBOUR: 'it returns false'. Refute it at one input. -/
def numLawsWrong : ChangeSpec := { name := "numLaws", fn := fun _ => fun
  | [d1, d2, d3] => { results := [.lit (.bool false)], args := [d1, d2, d3] }
  | _ => none }
def NumLawsWrongFalsely : Prop := numLawsRow.holds Try.pinned (OpenSpec.ofChange numLawsWrong)

/-- 'escarpmentlaw1.NumEdges': WHATEVER THE INPUT: true; the input reads as it did. -/
def numEdgesSpec : ChangeSpec := { name := "numEdges", fn := fun _ => fun
  | [d] => { results := [.lit (.bool true)], args := [d] }
  | _ => none }
def numEdgesRow : OpenClaim := { program := "ytgblhcnkfcjalaa", sum := "63456f12af09093b814c489476845ebd06511881f1ce194fd0c63850987e883c", func := "escarpment/escarpmentlaw1.NumEdges", spec := "numEdges", apart := false }
def NumEdgesSaid : Prop := numEdgesRow.holds Try.pinned (OpenSpec.ofChange numEdgesSpec)

/-- ITS FALSE NEIGHBOUR: 'it returns false'. Refute it at one input. -/
def numEdgesWrong : ChangeSpec := { name := "numEdges", fn := fun _ => fun
  | [d] => { results := [.lit (.bool false)], args := [d] }
  | _ => none }
def NumEdgesWrongFalsely : Prop := numEdgesRow.holds Try.pinned (OpenSpec.ofChange numEdgesWrong)

/-- 'escarpmentlaw1.NumSums': WHATEVER THE INPUT: true; the input reads as it did. -/
def numSumsSpec : ChangeSpec := { name := "numSums", fn := fun _ => fun
  | [d1, d2] => { results := [.lit (.bool true)], args := [d1, d2] }
  | _ => none }
def numSumsRow : OpenClaim := { program := "ytgblhcnkfcjalaa", sum := "63456f12af09093b814c489476845ebd06511881f1ce194fd0c63850987e883c", func := "escarpment/escarpmentlaw1.NumSums", spec := "numSums", apart := false }
def NumSumsSaid : Prop := numSumsRow.holds Try.pinned (OpenSpec.ofChange numSumsSpec)

/-- ITS FALSE NEIGHBOUR: 'it returns false'. Refute it at one input. -/
def numSumsWrong : ChangeSpec := { name := "numSums", fn := fun _ => fun
  | [d1, d2] => { results := [.lit (.bool false)], args := [d1, d2] }
  | _ => none }
def NumSumsWrongFalsely : Prop := numSumsRow.holds Try.pinned (OpenSpec.ofChange numSumsWrong)

/-- 'escarpmentlaw1.NumSquares': WHATEVER THE INPUT: true; the input reads as it did. -/
def numSquaresSpec : ChangeSpec := { name := "numSquares", fn := fun _ => fun
  | [d1, d2] => { results := [.lit (.bool true)], args := [d1, d2] }
  | _ => none }
def numSquaresRow : OpenClaim := { program := "ytgblhcnkfcjalaa", sum := "63456f12af09093b814c489476845ebd06511881f1ce194fd0c63850987e883c", func := "escarpment/escarpmentlaw1.NumSquares", spec := "numSquares", apart := false }
def NumSquaresSaid : Prop := numSquaresRow.holds Try.pinned (OpenSpec.ofChange numSquaresSpec)

/-- ITS FALSE NEIGHBOUR: 'it returns false'. Refute it at one input. -/
def numSquaresWrong : ChangeSpec := { name := "numSquares", fn := fun _ => fun
  | [d1, d2] => { results := [.lit (.bool false)], args := [d1, d2] }
  | _ => none }
def NumSquaresWrongFalsely : Prop := numSquaresRow.holds Try.pinned (OpenSpec.ofChange numSquaresWrong)

/-- 'escarpmentlaw1.NumBack': WHATEVER THE INPUT: true; the input reads as it did. -/
def numBackSpec : ChangeSpec := { name := "numBack", fn := fun _ => fun
  | [d1, d2] => { results := [.lit (.bool true)], args := [d1, d2] }
  | _ => none }
def numBackRow : OpenClaim := { program := "ytgblhcnkfcjalaa", sum := "63456f12af09093b814c489476845ebd06511881f1ce194fd0c63850987e883c", func := "escarpment/escarpmentlaw1.NumBack", spec := "numBack", apart := false }
def NumBackSaid : Prop := numBackRow.holds Try.pinned (OpenSpec.ofChange numBackSpec)

/-- ITS FALSE NEIGHBOUR: 'it returns false'. Refute it at one input. -/
def numBackWrong : ChangeSpec := { name := "numBack", fn := fun _ => fun
  | [d1, d2] => { results := [.lit (.bool false)], args := [d1, d2] }
  | _ => none }
def NumBackWrongFalsely : Prop := numBackRow.holds Try.pinned (OpenSpec.ofChange numBackWrong)

/-- 'escarpmentlaw1.NumSmall': WHATEVER THE INPUT: true; the input reads as it did. -/
def numSmallSpec : ChangeSpec := { name := "numSmall", fn := fun _ => fun
  | [d1, d2] => { results := [.lit (.bool true)], args := [d1, d2] }
  | _ => none }
def numSmallRow : OpenClaim := { program := "ytgblhcnkfcjalaa", sum := "63456f12af09093b814c489476845ebd06511881f1ce194fd0c63850987e883c", func := "escarpment/escarpmentlaw1.NumSmall", spec := "numSmall", apart := false }
def NumSmallSaid : Prop := numSmallRow.holds Try.pinned (OpenSpec.ofChange numSmallSpec)

/-- ITS FALSE NEIGHBOUR: 'it returns false'. Refute it at one input. -/
def numSmallWrong : ChangeSpec := { name := "numSmall", fn := fun _ => fun
  | [d1, d2] => { results := [.lit (.bool false)], args := [d1, d2] }
  | _ => none }
def NumSmallWrongFalsely : Prop := numSmallRow.holds Try.pinned (OpenSpec.ofChange numSmallWrong)

/- THE SECOND FORM. 'bulk': how many values and letters a reading holds, each counted each time it is reached (what is shared counts as often as it is met; a slice's spare places count too). A statement '..UptoSaid' is the law's where the arguments, and the package variables that the reading takes, are together of bulk at most 1048576: NARROWER than '..Said'. Prove '..Said' where nothing that the law and all that it calls make is longer than what came in: it says more and counts as full. Else prove '..UptoSaid'. A law counts once. -/
mutual
def uptoBulk {H : Type} : DataW H → Nat
  | .lit (.string bytes) => bytes.length + 1
  | .lit _ => 1
  | .nil => 1
  | .ptr d => uptoBulk d + 1
  | .slice elems spare => uptoBulkAll elems + uptoBulkAll spare + 1
  | .agg parts => uptoBulkAll parts + 1
  | .iface _ d => uptoBulk d + 1
  | .map entries => uptoBulkEntries entries + 1
  | .held _ => 1
def uptoBulkAll {H : Type} : List (DataW H) → Nat
  | [] => 0
  | d :: r => uptoBulk d + uptoBulkAll r
def uptoBulkEntries {H : Type} : List (Lit × DataW H) → Nat
  | [] => 0
  | x :: r => uptoBulkEntry x + uptoBulkEntries r
def uptoBulkEntry {H : Type} : Lit × DataW H → Nat
  | (.string bytes, d) => bytes.length + uptoBulk d + 1
  | (_, d) => uptoBulk d + 1
 end
def uptoSmall : (H : Type) → List (DataW H) → Bool := fun _ ds => decide (uptoBulkAll ds ≤ 1048576)
def OpenSpec.upto (s : _root_.Go.ChangeSpec) : _root_.Go.OpenSpec := { _root_.Go.OpenSpec.ofChange s with cond := some uptoSmall }

/-- 'escarpmentlaw1.NumParts', WHERE WHAT IT READS IS OF BULK AT MOST 1048576: true; the input reads as it did. -/
def numPartsUptoRow : OpenClaim := { program := "ytgblhcnkfcjalaa", sum := "63456f12af09093b814c489476845ebd06511881f1ce194fd0c63850987e883c", func := "escarpment/escarpmentlaw1.NumParts", spec := "numParts", apart := false, narrowed := true }
def NumPartsUptoSaid : Prop := numPartsUptoRow.holds Try.pinned (OpenSpec.upto numPartsSpec)

/-- 'escarpmentlaw1.NumForms', WHERE WHAT IT READS IS OF BULK AT MOST 1048576: true; the input reads as it did. -/
def numFormsUptoRow : OpenClaim := { program := "ytgblhcnkfcjalaa", sum := "63456f12af09093b814c489476845ebd06511881f1ce194fd0c63850987e883c", func := "escarpment/escarpmentlaw1.NumForms", spec := "numForms", apart := false, narrowed := true }
def NumFormsUptoSaid : Prop := numFormsUptoRow.holds Try.pinned (OpenSpec.upto numFormsSpec)

/-- 'escarpmentlaw1.NumGcds', WHERE WHAT IT READS IS OF BULK AT MOST 1048576: true; the input reads as it did. -/
def numGcdsUptoRow : OpenClaim := { program := "ytgblhcnkfcjalaa", sum := "63456f12af09093b814c489476845ebd06511881f1ce194fd0c63850987e883c", func := "escarpment/escarpmentlaw1.NumGcds", spec := "numGcds", apart := false, narrowed := true }
def NumGcdsUptoSaid : Prop := numGcdsUptoRow.holds Try.pinned (OpenSpec.upto numGcdsSpec)

/-- 'escarpmentlaw1.NumTexts', WHERE WHAT IT READS IS OF BULK AT MOST 1048576: true; the input reads as it did. -/
def numTextsUptoRow : OpenClaim := { program := "ytgblhcnkfcjalaa", sum := "63456f12af09093b814c489476845ebd06511881f1ce194fd0c63850987e883c", func := "escarpment/escarpmentlaw1.NumTexts", spec := "numTexts", apart := false, narrowed := true }
def NumTextsUptoSaid : Prop := numTextsUptoRow.holds Try.pinned (OpenSpec.upto numTextsSpec)

/-- 'escarpmentlaw1.NumRead', WHERE WHAT IT READS IS OF BULK AT MOST 1048576: true; the input reads as it did. -/
def numReadUptoRow : OpenClaim := { program := "ytgblhcnkfcjalaa", sum := "63456f12af09093b814c489476845ebd06511881f1ce194fd0c63850987e883c", func := "escarpment/escarpmentlaw1.NumRead", spec := "numRead", apart := false, narrowed := true }
def NumReadUptoSaid : Prop := numReadUptoRow.holds Try.pinned (OpenSpec.upto numReadSpec)

/-- 'escarpmentlaw1.NumPowers', WHERE WHAT IT READS IS OF BULK AT MOST 1048576: true; the input reads as it did. -/
def numPowersUptoRow : OpenClaim := { program := "ytgblhcnkfcjalaa", sum := "63456f12af09093b814c489476845ebd06511881f1ce194fd0c63850987e883c", func := "escarpment/escarpmentlaw1.NumPowers", spec := "numPowers", apart := false, narrowed := true }
def NumPowersUptoSaid : Prop := numPowersUptoRow.holds Try.pinned (OpenSpec.upto numPowersSpec)

/-- 'escarpmentlaw1.NumLaws', WHERE WHAT IT READS IS OF BULK AT MOST 1048576: true; the input reads as it did. -/
def numLawsUptoRow : OpenClaim := { program := "ytgblhcnkfcjalaa", sum := "63456f12af09093b814c489476845ebd06511881f1ce194fd0c63850987e883c", func := "escarpment/escarpmentlaw1.NumLaws", spec := "numLaws", apart := false, narrowed := true }
def NumLawsUptoSaid : Prop := numLawsUptoRow.holds Try.pinned (OpenSpec.upto numLawsSpec)

/-- 'escarpmentlaw1.NumEdges', WHERE WHAT IT READS IS OF BULK AT MOST 1048576: true; the input reads as it did. -/
def numEdgesUptoRow : OpenClaim := { program := "ytgblhcnkfcjalaa", sum := "63456f12af09093b814c489476845ebd06511881f1ce194fd0c63850987e883c", func := "escarpment/escarpmentlaw1.NumEdges", spec := "numEdges", apart := false, narrowed := true }
def NumEdgesUptoSaid : Prop := numEdgesUptoRow.holds Try.pinned (OpenSpec.upto numEdgesSpec)

/-- 'escarpmentlaw1.NumSums', WHERE WHAT IT READS IS OF BULK AT MOST 1048576: true; the input reads as it did. -/
def numSumsUptoRow : OpenClaim := { program := "ytgblhcnkfcjalaa", sum := "63456f12af09093b814c489476845ebd06511881f1ce194fd0c63850987e883c", func := "escarpment/escarpmentlaw1.NumSums", spec := "numSums", apart := false, narrowed := true }
def NumSumsUptoSaid : Prop := numSumsUptoRow.holds Try.pinned (OpenSpec.upto numSumsSpec)

/-- 'escarpmentlaw1.NumSquares', WHERE WHAT IT READS IS OF BULK AT MOST 1048576: true; the input reads as it did. -/
def numSquaresUptoRow : OpenClaim := { program := "ytgblhcnkfcjalaa", sum := "63456f12af09093b814c489476845ebd06511881f1ce194fd0c63850987e883c", func := "escarpment/escarpmentlaw1.NumSquares", spec := "numSquares", apart := false, narrowed := true }
def NumSquaresUptoSaid : Prop := numSquaresUptoRow.holds Try.pinned (OpenSpec.upto numSquaresSpec)

/-- 'escarpmentlaw1.NumBack', WHERE WHAT IT READS IS OF BULK AT MOST 1048576: true; the input reads as it did. -/
def numBackUptoRow : OpenClaim := { program := "ytgblhcnkfcjalaa", sum := "63456f12af09093b814c489476845ebd06511881f1ce194fd0c63850987e883c", func := "escarpment/escarpmentlaw1.NumBack", spec := "numBack", apart := false, narrowed := true }
def NumBackUptoSaid : Prop := numBackUptoRow.holds Try.pinned (OpenSpec.upto numBackSpec)

/-- 'escarpmentlaw1.NumSmall', WHERE WHAT IT READS IS OF BULK AT MOST 1048576: true; the input reads as it did. -/
def numSmallUptoRow : OpenClaim := { program := "ytgblhcnkfcjalaa", sum := "63456f12af09093b814c489476845ebd06511881f1ce194fd0c63850987e883c", func := "escarpment/escarpmentlaw1.NumSmall", spec := "numSmall", apart := false, narrowed := true }
def NumSmallUptoSaid : Prop := numSmallUptoRow.holds Try.pinned (OpenSpec.upto numSmallSpec)

end Rows
end Go.Proofs.Ytgblhcnkfcjalaa
