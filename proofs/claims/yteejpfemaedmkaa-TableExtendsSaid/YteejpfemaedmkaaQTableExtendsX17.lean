-- Written by wip/printx.py: the kit's printer with functions proved by hand. Not trusted: Lean checks it.
import Derived.Test.YteejpfemaedmkaaQTableExtendsX0
import Derived.Test.YteejpfemaedmkaaQTableExtendsX15
import Derived.Test.YteejpfemaedmkaaQTableExtendsX16
namespace Go.Proofs.Yteejpfemaedmkaa.X
open Go.RowKit Go.Proofs.YteejpfemaedmkaaW.PrintWords Go.Proofs.YteejpfemaedmkaaW.PrintLast Go.Proofs.YteejpfemaedmkaaW.PrintMore
attribute [local go_sem] max2_int min2_int max_two min_two max_three min_three max_four min_four
set_option linter.unusedVariables false
set_option linter.unusedSimpArgs false
attribute [local go_sem] vx_gtr vx_leq vx_geq
mutual
def stratumref13_Typed.l0 : Nat → List (S35) → List (S53) → Int → Option (Int)
 | 0, _, _, _ => none
 | k + 1, x0, x1, x5 => if x5 < (x1.length : Int) then (if 0 ≤ x5 then (if ((rd_T53 x1 x5).f0) ≥ 1 then (if ((rd_T53 x1 x5).f0) ≤ 65535 then (if x5 = 0 then (stratumref13_Typed.j1 k x0 x1 x5 true ((rd_T53 x1 x5).f0) ((rd_T53 x1 x5).f1.f0) ((rd_T53 x1 x5).f1.f1) ((rd_T53 x1 x5).f1.f2)) else (if 0 ≤ (wrap64 (x5 - 1)) then (if (wrap64 (x5 - 1)) < (x1.length : Int) then (stratumref13_Typed.j1 k x0 x1 x5 (decide (((rd_T53 x1 (wrap64 (x5 - 1))).f0) < ((rd_T53 x1 x5).f0))) ((rd_T53 x1 x5).f0) ((rd_T53 x1 x5).f1.f0) ((rd_T53 x1 x5).f1.f1) ((rd_T53 x1 x5).f1.f2)) else (none)) else (none))) else (stratumref13_Typed.j1 k x0 x1 x5 false ((rd_T53 x1 x5).f0) ((rd_T53 x1 x5).f1.f0) ((rd_T53 x1 x5).f1.f1) ((rd_T53 x1 x5).f1.f2))) else (stratumref13_Typed.j1 k x0 x1 x5 false ((rd_T53 x1 x5).f0) ((rd_T53 x1 x5).f1.f0) ((rd_T53 x1 x5).f1.f1) ((rd_T53 x1 x5).f1.f2))) else (none)) else ((stratumref05_Check.f k x1).bind fun bt297 => (some bt297.2))
def stratumref13_Typed.j1 : Nat → List (S35) → List (S53) → Int → Bool → Int → Int → Int → ByteArray → Option (Int)
 | 0, _, _, _, _, _, _, _, _ => none
 | k + 1, x0, x1, x5, x7, x301000, x301001, x301002, x301003 => if x7 = true then (if 0 ≤ x5 then (if x5 < (x0.length : Int) then (if x301000 = ((rd_T35 x0 x5).f1) then (if x301001 = ((rd_T35 x0 x5).f2) then ((stratumref04_Valid.f k x301001 x301002 x301003).bind fun t304 => (stratumref13_Typed.j2 k x0 x1 x5 (!t304))) else (stratumref13_Typed.j2 k x0 x1 x5 true)) else (stratumref13_Typed.j2 k x0 x1 x5 true)) else (none)) else (none)) else (stratumref13_Typed.j2 k x0 x1 x5 true)
def stratumref13_Typed.j2 : Nat → List (S35) → List (S53) → Int → Bool → Option (Int)
 | 0, _, _, _, _ => none
 | k + 1, x0, x1, x5, x76 => if x76 = true then (some 130) else (stratumref13_Typed.l0 k x0 x1 (wrap64 (x5 + 1)))
end
def stratumref13_Typed.f (k : Nat) (l0 : List (S35)) (l1 : List (S53)) : Option (Int) := if (l0.length : Int) = (l1.length : Int) then (stratumref13_Typed.l0 k l0 l1 0) else (some 130)
end Go.Proofs.Yteejpfemaedmkaa.X
