-- Written by wip/printx.py: the kit's printer with functions proved by hand. Not trusted: Lean checks it.
import Derived.Test.YteejpfemaedmkaaQTableExtendsX0
import Derived.Test.YteejpfemaedmkaaQTableExtendsX1
import Derived.Test.YteejpfemaedmkaaQTableExtendsX4
import Derived.Test.YteejpfemaedmkaaQTableExtendsX11
import Derived.Test.YteejpfemaedmkaaQTableExtendsX12
namespace Go.Proofs.Yteejpfemaedmkaa.X
open Go.RowKit Go.Proofs.YteejpfemaedmkaaW.PrintWords Go.Proofs.YteejpfemaedmkaaW.PrintLast Go.Proofs.YteejpfemaedmkaaW.PrintMore
attribute [local go_sem] max2_int min2_int max_two min_two max_three min_three max_four min_four
set_option linter.unusedVariables false
set_option linter.unusedSimpArgs false
attribute [local go_sem] vx_gtr vx_leq vx_geq
attribute [local go_sem high] eqA35
def stratumlaw13_TableLooks.j0 : Nat → List (S35) → Bool → List (S48) → ByteArray → Int → Int → Option (Bool)
 | 0, _, _, _, _, _, _ => none
 | k + 1, x5, x52, x230000, x230001, x230002, x230003 => if x52 = true then (some false) else ((table_Column.f k x5 x230001).bind fun bt242 => ((stratumref13_Column.f k x5 x230001).bind fun bt247 => (if (bt242.1.toList == bt247.1.toList && (bt242.2.1 == bt247.2.1 && (bt242.2.2.1 == bt247.2.2.1))) = true then (some (bt242.2.2.2 == bt247.2.2.2)) else (some false))))
def stratumlaw13_TableLooks.f (k : Nat) (l0_0 : List (S48)) (a0_1 : ByteArray) (a0_2 : Int) (a0_3 : Int) : Option (Bool) := (stratumlaw13_awake.f k).bind fun t230 => (if t230 = true then ((table_Find.f l0_0 a0_1).bind fun t231 => ((stratumref13_Find.f k l0_0 a0_1).bind fun t232 => (if t231 = t232 then ((table_Columns.f k l0_0 a0_2 a0_3).bind fun bt233 => ((stratumref13_Columns.f k l0_0 a0_2 a0_3).bind fun bt237 => (if bt233.2 = bt237.2 then ((stratumlaw13_same.f k bt233.1 bt237.1).bind fun t241 => (stratumlaw13_TableLooks.j0 k bt237.1 (!t241) l0_0 a0_1 a0_2 a0_3)) else (stratumlaw13_TableLooks.j0 k bt237.1 true l0_0 a0_1 a0_2 a0_3)))) else (some false)))) else (some false))
def stratumlaw13_TableLooks.T3 : Bool × List (List Nat × List Nat) := (true, [([], []), ([0], [0]), ([], []), ([2], [2]), ([1, 3], [1, 3]), ([], []), ([5], [5]), ([], []), ([7], [7]), ([6, 8, 4], [6, 8]), ([4, 9], [4, 9])])
def stratumlaw13_TableLooks.B3 : List Nat := [0, 1, 0, 4, 15, 0, 32, 0, 128, 511, 1023]
theorem stratumlaw13_TableLooks.tab3 : rtab .any (opsOf Try.f3 3) = stratumlaw13_TableLooks.T3 := by kernel_rfl
theorem stratumlaw13_TableLooks.bits3 : waitsOk stratumlaw13_TableLooks.T3.2 stratumlaw13_TableLooks.B3 = true := by kernel_rfl
def stratumref03_more.f (a0 : Int) (a1 : ByteArray) (a2 : Int) : Option (Int) := if a0 < 0 then (some (-1)) else (if a2 ≥ (a1.size : Int) then (some (-1)) else (if 0 ≤ a2 then (if a2 < (a1.size : Int) then (if (bt a1 a2) < 128 then (some (-1)) else (if (bt a1 a2) > 191 then (some (-1)) else (some (wrap64 ((wrap64 ((wrap64 (a0 * 64)) + (wrap64 (bt a1 a2)))) - 128))))) else (none)) else (none)))
def stratumref03_Put.j0 : Nat → Int → Bool → Option (ByteArray)
 | 0, _, _ => none
 | k + 1, x0, x3 => if x3 = true then (some (⟨#[]⟩ : ByteArray)) else (if x0 < 128 then (some (strOfNums (([(x0) % 256] : List Int)))) else (if x0 < 2048 then (some (strOfNums (([(wrap64 (192 + (wrap64 (Int.tdiv x0 64)))) % 256, (wrap64 (128 + (Int.tmod x0 64))) % 256] : List Int)))) else (if x0 < 65536 then (some (strOfNums (([(wrap64 (224 + (wrap64 (Int.tdiv x0 4096)))) % 256, (wrap64 (128 + (Int.tmod (wrap64 (Int.tdiv x0 64)) 64))) % 256, (wrap64 (128 + (Int.tmod x0 64))) % 256] : List Int)))) else (some (strOfNums (([(wrap64 (240 + (wrap64 (Int.tdiv x0 262144)))) % 256, (wrap64 (128 + (Int.tmod (wrap64 (Int.tdiv x0 4096)) 64))) % 256, (wrap64 (128 + (Int.tmod (wrap64 (Int.tdiv x0 64)) 64))) % 256, (wrap64 (128 + (Int.tmod x0 64))) % 256] : List Int)))))))
def stratumref03_Put.f (k : Nat) (a0 : Int) : Option (ByteArray) := if a0 < 0 then (stratumref03_Put.j0 k a0 true) else (if a0 > 1114111 then (stratumref03_Put.j0 k a0 true) else (if a0 ≥ 55296 then (stratumref03_Put.j0 k a0 (decide (a0 ≤ 57343))) else (stratumref03_Put.j0 k a0 false)))
end Go.Proofs.Yteejpfemaedmkaa.X
