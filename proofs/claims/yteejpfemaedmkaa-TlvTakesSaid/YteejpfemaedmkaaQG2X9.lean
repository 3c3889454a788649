-- Written by wip/printx.py: the kit's printer with functions proved by hand. Not trusted: Lean checks it.
import Derived.Test.YteejpfemaedmkaaQG2X0
import Derived.Test.YteejpfemaedmkaaQG2X5
import Derived.Test.YteejpfemaedmkaaQG2X8
namespace Go.Proofs.Yteejpfemaedmkaa.X
open Go.RowKit Go.Proofs.YteejpfemaedmkaaW.PrintWords Go.Proofs.YteejpfemaedmkaaW.PrintLast Go.Proofs.YteejpfemaedmkaaW.PrintMore
attribute [local go_sem] max2_int min2_int max_two min_two max_three min_three max_four min_four
set_option linter.unusedVariables false
set_option linter.unusedSimpArgs false
attribute [local go_sem] vx_gtr vx_leq vx_geq
def table_Typed.l0 : Nat → List (S35) → List (S53) → List (S53) → Int → Int → Option (Int)
 | 0, _, _, _, _, _ => none
 | k + 1, x0, x1, x14, x15, x16 => if x16 < x15 then (if 0 ≤ x16 then (if x16 < (x14.length : Int) then (if x16 < (x0.length : Int) then (if ((rd_T53 x14 x16).f0) = ((rd_T35 x0 x16).f1) then (if ((rd_T53 x14 x16).f1.f0) = ((rd_T35 x0 x16).f2) then ((kind_Valid.f k ((rd_T53 x14 x16).f1.f0) ((rd_T53 x14 x16).f1.f1) ((rd_T53 x14 x16).f1.f2)).bind fun t144 => (if t144 = true then (table_Typed.l0 k x0 x1 x14 x15 (wrap64 (x16 + 1))) else (some 130))) else (some 130)) else (some 130)) else (none)) else (none)) else (none)) else ((tlv_Check.f k x1).bind fun bt145 => (if bt145.2 = 0 then (some 0) else (if bt145.2 = 2 then (some 2) else (some 130))))
def table_Typed.f (k : Nat) (l0 : List (S35)) (l1 : List (S53)) : Option (Int) := if (l1.length : Int) = (l0.length : Int) then (table_Typed.l0 k l0 l1 l1 (l1.length : Int) 0) else (some 130)
end Go.Proofs.Yteejpfemaedmkaa.X
