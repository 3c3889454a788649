-- Written by wip/printx.py: the kit's printer with functions proved by hand. Not trusted: Lean checks it.
import Derived.Test.YtepkmbbeaaljlaaXOpen
import Derived.Test.YtepkmbbeaaljlaaX9
namespace Go.Proofs.Ytepkmbbeaaljlaa.X
open Go.RowKit Go.Proofs.YtepkmbbeaaljlaaW.PrintWords Go.Proofs.YtepkmbbeaaljlaaW.PrintLast Go.Proofs.YtepkmbbeaaljlaaW.PrintMore
attribute [local go_sem] max2_int min2_int max_two min_two max_three min_three max_four min_four   -- for this text's walks alone
set_option linter.unusedVariables false
set_option linter.unusedSimpArgs false

def stratumlaw04_KindOrder.PureX : Prop := ∀ (x0 : S27) (x1 : S27) (x2 : S27), (wfS27 x0) → (wfS27 x1) → (wfS27 x2) → ∃ k, stratumlaw04_KindOrder.f k (x0.f0) (x0.f1) (x0.f2) (x1.f0) (x1.f1) (x1.f2) (x2.f0) (x2.f1) (x2.f2) = some true
end Go.Proofs.Ytepkmbbeaaljlaa.X
