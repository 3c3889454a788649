-- Written by wip/printx.py: the kit's printer with functions proved by hand. Not trusted: Lean checks it.
import Derived.Test.YteejpfemaedmkaaQTableExtendsX0
import Derived.Test.YteejpfemaedmkaaQTableExtendsX15
namespace Go.Proofs.Yteejpfemaedmkaa.X
open Go.RowKit Go.Proofs.YteejpfemaedmkaaW.PrintWords Go.Proofs.YteejpfemaedmkaaW.PrintLast Go.Proofs.YteejpfemaedmkaaW.PrintMore
attribute [local go_sem] max2_int min2_int max_two min_two max_three min_three max_four min_four
set_option linter.unusedVariables false
set_option linter.unusedSimpArgs false
attribute [local go_sem] vx_gtr vx_leq vx_geq
def stratumref05_Check.l0 : Nat → List (S53) → Int → Option (Int × Int)
 | 0, _, _ => none
 | k + 1, x0, x4 => if x4 < (x0.length : Int) then (if 0 ≤ x4 then (if ((rd_T53 x0 x4).f0) < 1 then (some (x4, 1)) else (if ((rd_T53 x0 x4).f0) > 65535 then (some (x4, 1)) else (if x4 > 0 then (if 0 ≤ (wrap64 (x4 - 1)) then (if (wrap64 (x4 - 1)) < (x0.length : Int) then (if ((rd_T53 x0 x4).f0) ≤ ((rd_T53 x0 (wrap64 (x4 - 1))).f0) then (some (x4, 1)) else ((stratumref04_Valid.f k ((rd_T53 x0 x4).f1.f0) ((rd_T53 x0 x4).f1.f1) ((rd_T53 x0 x4).f1.f2)).bind fun t294 => (if t294 = true then (stratumref05_Check.l0 k x0 (wrap64 (x4 + 1))) else (some (x4, 1))))) else (none)) else (none)) else ((stratumref04_Valid.f k ((rd_T53 x0 x4).f1.f0) ((rd_T53 x0 x4).f1.f1) ((rd_T53 x0 x4).f1.f2)).bind fun t295 => (if t295 = true then (stratumref05_Check.l0 k x0 (wrap64 (x4 + 1))) else (some (x4, 1))))))) else (none)) else ((stratumref05_length.f k x0).bind fun t296 => (if t296 > 16777215 then (some (0, 2)) else (some (0, 0))))
def stratumref05_Check.f (k : Nat) (l0 : List (S53)) : Option (Int × Int) := stratumref05_Check.l0 k l0 0
def stratumref05_Check.T5 : Bool × List (List Nat × List Nat) := (true, [([], []), ([0], [0]), ([1], [1]), ([2], [2]), ([3], [3]), ([4, 3], [3, 4]), ([5, 3], [3, 5]), ([3, 6], [3, 6]), ([7, 3], [7]), ([8], [8]), ([9, 8], [8, 9]), ([10, 8, 8], [8, 10]), ([11], [11]), ([12, 11], [11, 12]), ([11], [11]), ([11], [11]), ([15, 11], [11, 15]), ([14, 16, 11], [11, 14, 16]), ([17, 11], [11, 17]), ([18, 11], [11, 18]), ([13, 19, 11], [11, 13, 19]), ([11, 20, 8], [8, 11, 20]), ([8, 21], [8, 21]), ([22, 11], [22]), ([23], [23]), ([24, 23], [23, 24]), ([25, 23, 23], [23, 25]), ([26, 23], [23, 26]), ([23, 27], [23, 27])])
def stratumref05_Check.B5 : List Nat := [0, 1, 3, 7, 15, 31, 63, 127, 255, 511, 1023, 2047, 4095, 8191, 4095, 4095, 36863, 118783, 249855, 511999, 1048575, 2097151, 4194303, 8388607, 16777215, 33554431, 67108863, 134217727, 268435455]
theorem stratumref05_Check.tab5 : rtab .any (opsOf Try.f32 5) = stratumref05_Check.T5 := by kernel_rfl
theorem stratumref05_Check.bits5 : waitsOk stratumref05_Check.T5.2 stratumref05_Check.B5 = true := by kernel_rfl
end Go.Proofs.Yteejpfemaedmkaa.X
