-- Written by wip/printx.py: the kit's printer with functions proved by hand. Not trusted: Lean checks it.
import Derived.Test.YteejpfemaedmkaaQG2X0
import Derived.Test.YteejpfemaedmkaaQG2X1
namespace Go.Proofs.Yteejpfemaedmkaa.X
open Go.RowKit Go.Proofs.YteejpfemaedmkaaW.PrintWords Go.Proofs.YteejpfemaedmkaaW.PrintLast Go.Proofs.YteejpfemaedmkaaW.PrintMore
attribute [local go_sem] max2_int min2_int max_two min_two max_three min_three max_four min_four
set_option linter.unusedVariables false
set_option linter.unusedSimpArgs false
attribute [local go_sem] vx_gtr vx_leq vx_geq
attribute [local go_sem high] eqA35
def stratumref13_Find.l0 : Nat → ByteArray → Int → List (S48) → Option (Int)
 | 0, _, _, _ => none
 | k + 1, x1, x5, x214000 => if x5 < (x214000.length : Int) then (if 0 ≤ x5 then (if ((rd_T48 x214000 x5).f0).toList = x1.toList then (some x5) else (stratumref13_Find.l0 k x1 (wrap64 (x5 + 1)) x214000)) else (none)) else (some (-1))
def stratumref13_Find.f (k : Nat) (l0_0 : List (S48)) (a1 : ByteArray) : Option (Int) := stratumref13_Find.l0 k a1 0 l0_0
def stratumref13_Columns.j0 : Nat → Int → Int → Bool → List (S48) → Option ((List (S35)) × Int)
 | 0, _, _, _, _ => none
 | k + 1, x1, x2, x18, x216000 => if x18 = true then (some (([] : List (S35)), 131)) else (if 0 ≤ x1 then (if x1 < (x216000.length : Int) then (if x2 < 1 then (some (([] : List (S35)), 132)) else (if x2 > (((rd_T48 x216000 x1).f1).length : Int) then (some (([] : List (S35)), 132)) else ((some (([] : List (S35)) : List (S35))).bind fun y217 => (if 0 ≤ (wrap64 (x2 - 1)) then (if (wrap64 (x2 - 1)) < (((rd_T48 x216000 x1).f1).length : Int) then (if y217.length + ((rd_T45 ((rd_T48 x216000 x1).f1) (wrap64 (x2 - 1))).f1).length < 4398046511104 then (some ((y217 ++ ((rd_T45 ((rd_T48 x216000 x1).f1) (wrap64 (x2 - 1))).f1)), 0)) else (none)) else (none)) else (none))))) else (none)) else (none))
def stratumref13_Columns.f (k : Nat) (l0_0 : List (S48)) (a1 : Int) (a2 : Int) : Option ((List (S35)) × Int) := if a1 < 0 then (stratumref13_Columns.j0 k a1 a2 true l0_0) else (stratumref13_Columns.j0 k a1 a2 (decide ((l0_0.length : Int) ≤ a1)) l0_0)
def stratumlaw13_same.l0 : Nat → List (S35) → List (S35) → Int → Option (Bool)
 | 0, _, _, _ => none
 | k + 1, x0, x1, x5 => if x5 < (x0.length : Int) then (if 0 ≤ x5 then (if x5 < (x1.length : Int) then (if (!((((rd_T35 x0 x5).f0).toList) == (((rd_T35 x1 x5).f0).toList)) || (!(((rd_T35 x0 x5).f1) == ((rd_T35 x1 x5).f1)) || (!(((rd_T35 x0 x5).f2) == ((rd_T35 x1 x5).f2))))) = true then (some false) else (stratumlaw13_same.l0 k x0 x1 (wrap64 (x5 + 1)))) else (none)) else (none)) else (some true)
def stratumlaw13_same.f (k : Nat) (l0 : List (S35)) (l1 : List (S35)) : Option (Bool) := if (l0.length : Int) = (l1.length : Int) then (stratumlaw13_same.l0 k l0 l1 0) else (some false)
def stratumref13_Column.l0 : Nat → List (S35) → ByteArray → Int → Option (ByteArray × Int × Int × Bool)
 | 0, _, _, _ => none
 | k + 1, x0, x1, x6 => if x6 < (x0.length : Int) then (if 0 ≤ x6 then (if ((rd_T35 x0 x6).f0).toList = x1.toList then (some ((rd_T35 x0 x6).f0, (rd_T35 x0 x6).f1, (rd_T35 x0 x6).f2, true)) else (stratumref13_Column.l0 k x0 x1 (wrap64 (x6 + 1)))) else (none)) else (some ((⟨#[]⟩ : ByteArray), 0, 0, false))
def stratumref13_Column.f (k : Nat) (l0 : List (S35)) (a1 : ByteArray) : Option (ByteArray × Int × Int × Bool) := stratumref13_Column.l0 k l0 a1 0
end Go.Proofs.Yteejpfemaedmkaa.X
