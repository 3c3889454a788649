-- Written by wip/printx.py: the kit's printer with functions proved by hand. Not trusted: Lean checks it.
import Derived.Test.YtepkmbbeaaljlaaXOpen
import Derived.Test.YtepkmbbeaaljlaaX9
namespace Go.Proofs.Ytepkmbbeaaljlaa.X
open Go.RowKit Go.Proofs.YtepkmbbeaaljlaaW.PrintWords Go.Proofs.YtepkmbbeaaljlaaW.PrintLast Go.Proofs.YtepkmbbeaaljlaaW.PrintMore
attribute [local go_sem] max2_int min2_int max_two min_two max_three min_three max_four min_four   -- for this text's walks alone
set_option linter.unusedVariables false
set_option linter.unusedSimpArgs false

def stratumlaw04_KindExact.PureX : Prop := ∀ (x0 : List (S27)), (x0.length * 32 ≤ 140737488351232 ∧ ∀ x_ ∈ x0, wfS27 x_) → ∃ k, stratumlaw04_KindExact.f k x0 = some true
end Go.Proofs.Ytepkmbbeaaljlaa.X
