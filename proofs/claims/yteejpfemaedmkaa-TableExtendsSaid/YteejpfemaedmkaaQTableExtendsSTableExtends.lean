-- Written by wip/printx.py: the kit's printer with functions proved by hand. Not trusted: Lean checks it.
import Derived.Test.YteejpfemaedmkaaQTableExtendsXOpen
import Derived.Test.YteejpfemaedmkaaQTableExtendsX20
namespace Go.Proofs.Yteejpfemaedmkaa.X
open Go.RowKit Go.Proofs.YteejpfemaedmkaaW.PrintWords Go.Proofs.YteejpfemaedmkaaW.PrintLast Go.Proofs.YteejpfemaedmkaaW.PrintMore
attribute [local go_sem] max2_int min2_int max_two min_two max_three min_three max_four min_four
set_option linter.unusedVariables false
set_option linter.unusedSimpArgs false
def stratumlaw13_TableExtends.PureX : Prop := ∀ (x0 : S24) (x1 : S24), (wfS24 x0) → (wfS24 x1) → ∃ k, stratumlaw13_TableExtends.f k (x0.f0) (x1.f0) = some true
end Go.Proofs.Yteejpfemaedmkaa.X
