-- Written by wip/printx.py: the kit's printer with functions proved by hand. Not trusted: Lean checks it.
import Derived.Test.YteejpfemaedmkaaXOpen
import Derived.Test.YteejpfemaedmkaaX21
namespace Go.Proofs.Yteejpfemaedmkaa.X
open Go.RowKit Go.Proofs.YteejpfemaedmkaaW.PrintWords Go.Proofs.YteejpfemaedmkaaW.PrintLast Go.Proofs.YteejpfemaedmkaaW.PrintMore
attribute [local go_sem] max2_int min2_int max_two min_two max_three min_three max_four min_four   -- for this text's walks alone
set_option linter.unusedVariables false
set_option linter.unusedSimpArgs false

def stratumlaw13_TableCounts.PureX : Prop := ∀ (x0 : S24) (x1 : Int) (x2 : Int), (wfS24 x0) → ((Lit.int .i64 x1).wf = true) → ((Lit.int .i64 x2).wf = true) → ∃ k, stratumlaw13_TableCounts.f k (x0.f0) x1 x2 = some true
end Go.Proofs.Yteejpfemaedmkaa.X
