-- Written by wip/printx.py: the kit's printer with functions proved by hand. Not trusted: Lean checks it.
import Derived.Test.YteejpfemaedmkaaXOpen
import Derived.Test.YteejpfemaedmkaaX13
namespace Go.Proofs.Yteejpfemaedmkaa.X
open Go.RowKit Go.Proofs.YteejpfemaedmkaaW.PrintWords Go.Proofs.YteejpfemaedmkaaW.PrintLast Go.Proofs.YteejpfemaedmkaaW.PrintMore
attribute [local go_sem] max2_int min2_int max_two min_two max_three min_three max_four min_four   -- for this text's walks alone
set_option linter.unusedVariables false
set_option linter.unusedSimpArgs false

def stratumlaw13_TableLooks.PureX : Prop := ∀ (x0 : S26), (wfS26 x0) → ∃ k, stratumlaw13_TableLooks.f k (x0.f0.f0) (x0.f1) (x0.f2) (x0.f3) = some true
end Go.Proofs.Yteejpfemaedmkaa.X
