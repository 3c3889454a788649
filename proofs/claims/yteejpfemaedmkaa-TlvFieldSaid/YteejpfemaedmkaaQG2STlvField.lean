-- Written by wip/printx.py: the kit's printer with functions proved by hand. Not trusted: Lean checks it.
import Derived.Test.YteejpfemaedmkaaQG2XOpen
import Derived.Test.YteejpfemaedmkaaQG2X31
namespace Go.Proofs.Yteejpfemaedmkaa.X
open Go.RowKit Go.Proofs.YteejpfemaedmkaaW.PrintWords Go.Proofs.YteejpfemaedmkaaW.PrintLast Go.Proofs.YteejpfemaedmkaaW.PrintMore
attribute [local go_sem] max2_int min2_int max_two min_two max_three min_three max_four min_four
set_option linter.unusedVariables false
set_option linter.unusedSimpArgs false
def stratumlaw05_TlvField.PureX : Prop := ∀ (x0 : S53), (wfS53 x0) → ∃ k, stratumlaw05_TlvField.f k (x0.f0) (x0.f1.f0) (x0.f1.f1) (x0.f1.f2) = some true
end Go.Proofs.Yteejpfemaedmkaa.X
