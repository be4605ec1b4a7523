/- The document's example of order, as a program. -/
import Derived.Test.YtboekagofficpaaGreatX9
import Derived.Test.YtboekagofficpaaGreatT
set_option linter.unusedVariables false
set_option linter.unusedSimpArgs false
namespace Go.Abs
open Go Go.Proofs
set_option maxRecDepth 100000
def progV : Value := .agg ⟨[fzv 1 [.string ⟨#[109]⟩, .slice none 0 0, .string ⟨#[]⟩, .slice none 0 0, fzv 1 [.int .i64 6, .string ⟨#[]⟩, .string ⟨#[]⟩, fzv 1 [.int .i64 11, .int .i64 0, .string ⟨#[]⟩, .int .i64 (-1), .int .i64 (-1)], .slice none 0 0, .slice none 0 0, .slice none 0 0]]]⟩
theorem pn_prog : Pns 3 [progV] := pncs_ok (f := 60) (by decide +kernel)
theorem pu_prog : Pu progV := pn_prog.pus.mem _ (List.mem_cons_self ..)
theorem p299 : PC Tryz.prog 20 [.string ⟨#[112, 114, 111, 99, 32, 109, 32, 40, 32, 41, 32, 123, 32, 119, 104, 105, 108, 101, 32, 42, 32, 123, 32, 125, 32, 125]⟩] (.tuple ⟨[progV, .bool true]⟩) :=
  PC.reck T.hm (n := 100000) (K := 1) (.cons (.ground rfl) .nil) (by decide) (.tuple (.cons pu_prog (.cons (.ground rfl) .nil))) (by kernel_rfl)
end Go.Abs
