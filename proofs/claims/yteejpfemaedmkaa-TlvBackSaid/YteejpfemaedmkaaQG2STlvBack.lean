-- Written by wip/printx.py: the kit's printer with functions proved by hand. Not trusted: Lean checks it.
import Derived.Test.YteejpfemaedmkaaQG2XOpen
import Derived.Test.YteejpfemaedmkaaQG2X29
namespace Go.Proofs.Yteejpfemaedmkaa.X
open Go.RowKit Go.Proofs.YteejpfemaedmkaaW.PrintWords Go.Proofs.YteejpfemaedmkaaW.PrintLast Go.Proofs.YteejpfemaedmkaaW.PrintMore
attribute [local go_sem] max2_int min2_int max_two min_two max_three min_three max_four min_four
set_option linter.unusedVariables false
set_option linter.unusedSimpArgs false
def stratumlaw05_TlvBack.PureX : Prop := ∀ (x0 : List (S53)), (x0.length * 40 ≤ 140737488351232 ∧ ∀ x_ ∈ x0, wfS53 x_) → ∃ k, stratumlaw05_TlvBack.f k x0 = some true
end Go.Proofs.Yteejpfemaedmkaa.X
