-- Written by wip/printx.py: the kit's printer with functions proved by hand. Not trusted: Lean checks it.
import Derived.Test.YteejpfemaedmkaaQTableExtendsX0
import Derived.Test.YteejpfemaedmkaaQTableExtendsX14
namespace Go.Proofs.Yteejpfemaedmkaa.X
open Go.RowKit Go.Proofs.YteejpfemaedmkaaW.PrintWords Go.Proofs.YteejpfemaedmkaaW.PrintLast Go.Proofs.YteejpfemaedmkaaW.PrintMore
attribute [local go_sem] max2_int min2_int max_two min_two max_three min_three max_four min_four
set_option linter.unusedVariables false
set_option linter.unusedSimpArgs false
attribute [local go_sem] vx_gtr vx_leq vx_geq
def stratumref03_Fault.l0 : Nat → ByteArray → Int → Option (Int)
 | 0, _, _ => none
 | k + 1, x0, x3 => if x3 < (x0.size : Int) then (if 0 ≤ x3 then (if x3 ≤ (x0.size : Int) then ((stratumref03_Next.f k (x0.extract (x3 : Int).toNat x0.size)).bind fun bt275 => (if bt275.1 < 0 then (some x3) else (stratumref03_Fault.l0 k x0 (wrap64 (x3 + bt275.2))))) else (none)) else (none)) else (some x3)
def stratumref03_Fault.f (k : Nat) (a0 : ByteArray) : Option (Int) := stratumref03_Fault.l0 k a0 0
def stratumref03_Valid.f (k : Nat) (a0 : ByteArray) : Option (Bool) := (stratumref03_Fault.f k a0).bind fun t277 => (some (t277 == (a0.size : Int)))
def stratumref04_Valid.j0 : Nat → Int → Bool → Int → Int → ByteArray → Option (Bool)
 | 0, _, _, _, _, _ => none
 | k + 1, x4, x5, x279000, x279001, x279002 => if x5 = true then (some x279002.toList.isEmpty) else (if x4 = 3 then (if x279002.toList = ([] : List UInt8) then (some (decide (x279001 ≤ 1))) else (some false)) else (if x4 = 4 then (if x279001 = 0 then ((stratumref03_Valid.f k x279002).bind fun t279 => (some t279)) else (some false)) else (if x4 = 5 then (some (x279001 == 0)) else (some false))))
def stratumref04_Valid.f (k : Nat) (a0_0 : Int) (a0_1 : Int) (a0_2 : ByteArray) : Option (Bool) := if a0_0 = 1 then (stratumref04_Valid.j0 k a0_0 (a0_0 == 1) a0_0 a0_1 a0_2) else (stratumref04_Valid.j0 k a0_0 (a0_0 == 2) a0_0 a0_1 a0_2)
def stratumref05_key.f (a0_0 : Int) (a0_1 : Int) (a0_2 : Int) (a0_3 : ByteArray) : Option (Int) := some (IntKind.u64.wrap ((IntKind.u64.wrap (8 * (IntKind.u64.wrap (a0_0)))) + (IntKind.u64.wrap (a0_1))))
def stratumref02_Zig.f (a0 : Int) : Option (Int) := if a0 ≥ 0 then (some (IntKind.u64.wrap (2 * (IntKind.u64.wrap (a0))))) else (some (IntKind.u64.wrap ((IntKind.u64.wrap (2 * (IntKind.u64.wrap (wrap64 (-(wrap64 (a0 + 1))))))) + 1)))
def stratumref02_Size.l0 : Nat → Int → Int → Option (Int)
 | 0, _, _ => none
 | k + 1, x0, x3 => if x0 ≥ 128 then (stratumref02_Size.l0 k (IntKind.u64.wrap (Int.tdiv x0 128)) (wrap64 (x3 + 1))) else (some x3)
def stratumref02_Size.f (k : Nat) (a0 : Int) : Option (Int) := stratumref02_Size.l0 k a0 1
def stratumref05_payload.f (k : Nat) (a0_0 : Int) (a0_1 : Int) (a0_2 : ByteArray) : Option (Int) := if a0_0 = 1 then ((stratumref02_Size.f k a0_1).bind fun t282 => (some t282)) else (if a0_0 = 2 then ((stratumref02_Zig.f (wrap64 (a0_1))).bind fun t283 => ((stratumref02_Size.f k t283).bind fun t284 => (some t284))) else (if a0_0 = 3 then (some 1) else (some (a0_2.size : Int))))
def stratumref05_length.l0 : Nat → List (S53) → Int → Int → Option (Int)
 | 0, _, _, _ => none
 | k + 1, x0, x3, x4 => if x4 < (x0.length : Int) then (if 0 ≤ x4 then ((stratumref05_payload.f k ((rd_T53 x0 x4).f1.f0) ((rd_T53 x0 x4).f1.f1) ((rd_T53 x0 x4).f1.f2)).bind fun t286 => ((stratumref05_key.f ((rd_T53 x0 x4).f0) ((rd_T53 x0 x4).f1.f0) ((rd_T53 x0 x4).f1.f1) ((rd_T53 x0 x4).f1.f2)).bind fun t288 => ((stratumref02_Size.f k t288).bind fun t289 => ((stratumref02_Size.f k (IntKind.u64.wrap (t286))).bind fun t290 => (if (wrap64 ((wrap64 ((wrap64 (x3 + t289)) + t290)) + t286)) > 16777215 then (some 16777216) else (stratumref05_length.l0 k x0 (wrap64 ((wrap64 ((wrap64 (x3 + t289)) + t290)) + t286)) (wrap64 (x4 + 1)))))))) else (none)) else (some x3)
def stratumref05_length.f (k : Nat) (l0 : List (S53)) : Option (Int) := stratumref05_length.l0 k l0 0 0
end Go.Proofs.Yteejpfemaedmkaa.X
