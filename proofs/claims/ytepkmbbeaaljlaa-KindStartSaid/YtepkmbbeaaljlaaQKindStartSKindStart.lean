-- Written by wip/printx.py: the kit's printer with functions proved by hand. Not trusted: Lean checks it.
import Derived.Test.YtepkmbbeaaljlaaQKindStartXOpen
import Derived.Test.YtepkmbbeaaljlaaQKindStartX14
namespace Go.Proofs.Ytepkmbbeaaljlaa.X
open Go.RowKit Go.Proofs.YtepkmbbeaaljlaaW.PrintWords Go.Proofs.YtepkmbbeaaljlaaW.PrintLast Go.Proofs.YtepkmbbeaaljlaaW.PrintMore
attribute [local go_sem] max2_int min2_int max_two min_two max_three min_three max_four min_four
set_option linter.unusedVariables false
set_option linter.unusedSimpArgs false
def stratumlaw04_KindStart.PureX : Prop := ∀ (x0 : S41), (wfS41 x0) → ∃ k, stratumlaw04_KindStart.f k (x0.f0) (x0.f1) (x0.f2) (x0.f3) = some true
end Go.Proofs.Ytepkmbbeaaljlaa.X
