-- Written by wip/printx.py: the kit's printer with functions proved by hand. Not trusted: Lean checks it.
import Derived.Test.YteejpfemaedmkaaQG2X0
import Derived.Test.YteejpfemaedmkaaQG2X1
import Derived.Test.YteejpfemaedmkaaQG2X3
namespace Go.Proofs.Yteejpfemaedmkaa.X
open Go.RowKit Go.Proofs.YteejpfemaedmkaaW.PrintWords Go.Proofs.YteejpfemaedmkaaW.PrintLast Go.Proofs.YteejpfemaedmkaaW.PrintMore
attribute [local go_sem] max2_int min2_int max_two min_two max_three min_three max_four min_four
set_option linter.unusedVariables false
set_option linter.unusedSimpArgs false
attribute [local go_sem] vx_gtr vx_leq vx_geq
attribute [local go_sem high] eqA35 eqA85
def api_Step.l0 : Nat → List (S85) → List (S85) → Int → Int → Option (Bool)
 | 0, _, _, _, _ => none
 | k + 1, x0, x1, x12, x13 => if x13 < x12 then (if 0 ≤ x13 then (if x13 < (x0.length : Int) then (if x13 < (x1.length : Int) then (if (!(((rd_T85 x0 x13).f0) == ((rd_T85 x1 x13).f0)) || (!(((rd_T85 x0 x13).f1) == ((rd_T85 x1 x13).f1)) || (!(((rd_T85 x0 x13).f2) == ((rd_T85 x1 x13).f2)) || (!(((rd_T85 x0 x13).f3) == ((rd_T85 x1 x13).f3)) || (!((((rd_T85 x0 x13).f4).toList) == (((rd_T85 x1 x13).f4).toList)) || (!(((rd_T85 x0 x13).f5) == ((rd_T85 x1 x13).f5)) || ((!(((rd_T85 x0 x13).f6.f0) == ((rd_T85 x1 x13).f6.f0)) || (!(((rd_T85 x0 x13).f6.f1) == ((rd_T85 x1 x13).f6.f1)) || (!((((rd_T85 x0 x13).f6.f2).toList) == (((rd_T85 x1 x13).f6.f2).toList)))))))))))) = true then (some false) else (api_Step.l0 k x0 x1 x12 (wrap64 (x13 + 1)))) else (none)) else (none)) else (none)) else (some true)
def api_Step.f (k : Nat) (l0 : List (S85)) (l1 : List (S85)) : Option (Bool) := if (l0.length : Int) = (l1.length : Int) then (api_Step.l0 k l0 l1 (l0.length : Int) 0) else (some false)
def api_Column_54.l0 : Nat → List (S35) → List (S35) → Int → Int → Option (Bool)
 | 0, _, _, _, _ => none
 | k + 1, x0, x1, x12, x13 => if x13 < x12 then (if 0 ≤ x13 then (if x13 < (x0.length : Int) then (if x13 < (x1.length : Int) then (if (!((((rd_T35 x0 x13).f0).toList) == (((rd_T35 x1 x13).f0).toList)) || (!(((rd_T35 x0 x13).f1) == ((rd_T35 x1 x13).f1)) || (!(((rd_T35 x0 x13).f2) == ((rd_T35 x1 x13).f2))))) = true then (some false) else (api_Column_54.l0 k x0 x1 x12 (wrap64 (x13 + 1)))) else (none)) else (none)) else (none)) else (some true)
def api_Column_54.f (k : Nat) (l0 : List (S35)) (l1 : List (S35)) : Option (Bool) := if (l0.length : Int) = (l1.length : Int) then (api_Column_54.l0 k l0 l1 (l0.length : Int) 0) else (some false)
end Go.Proofs.Yteejpfemaedmkaa.X
