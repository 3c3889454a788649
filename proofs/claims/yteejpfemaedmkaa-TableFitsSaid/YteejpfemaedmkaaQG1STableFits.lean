-- Written by wip/printx.py: the kit's printer with functions proved by hand. Not trusted: Lean checks it.
import Derived.Test.YteejpfemaedmkaaQG1XOpen
import Derived.Test.YteejpfemaedmkaaQG1X33
namespace Go.Proofs.Yteejpfemaedmkaa.X
open Go.RowKit Go.Proofs.YteejpfemaedmkaaW.PrintWords Go.Proofs.YteejpfemaedmkaaW.PrintLast Go.Proofs.YteejpfemaedmkaaW.PrintMore
attribute [local go_sem] max2_int min2_int max_two min_two max_three min_three max_four min_four
set_option linter.unusedVariables false
set_option linter.unusedSimpArgs false
def stratumlaw13_TableFits.PureX : Prop := ∀ (x0 : List (S35)) (x1 : List (S53)) (x2 : List (S35)), (x0.length * 32 ≤ 140737488351232 ∧ ∀ x_ ∈ x0, wfS35 x_) → (x1.length * 40 ≤ 140737488351232 ∧ ∀ x_ ∈ x1, wfS53 x_) → (x2.length * 32 ≤ 140737488351232 ∧ ∀ x_ ∈ x2, wfS35 x_) → ∃ k, stratumlaw13_TableFits.f k x0 x1 x2 = some true
end Go.Proofs.Yteejpfemaedmkaa.X
