-- Written by wip/printx.py: the kit's printer with functions proved by hand. Not trusted: Lean checks it.
import Derived.Test.YteejpfemaedmkaaQTableExtendsX0
import Derived.Test.YteejpfemaedmkaaQTableExtendsX13
namespace Go.Proofs.Yteejpfemaedmkaa.X
open Go.RowKit Go.Proofs.YteejpfemaedmkaaW.PrintWords Go.Proofs.YteejpfemaedmkaaW.PrintLast Go.Proofs.YteejpfemaedmkaaW.PrintMore
attribute [local go_sem] max2_int min2_int max_two min_two max_three min_three max_four min_four
set_option linter.unusedVariables false
set_option linter.unusedSimpArgs false
attribute [local go_sem] vx_gtr vx_leq vx_geq
mutual
def stratumref03_Next.j0 : Nat → ByteArray → Int → Int → Bool → Option (Int × Int)
 | 0, _, _, _, _ => none
 | k + 1, x0, x4, x5, x16 => if x16 = true then ((stratumref03_more.f (wrap64 (x4 - 192)) x0 1).bind fun t265 => ((stratumref03_Put.f k t265).bind fun t266 => (if t266.toList = ([] : List UInt8) then (some ((-1), 1)) else (if (t266.size : Int) > (x0.size : Int) then (some ((-1), 1)) else (if 0 ≤ (t266.size : Int) then (if (t266.size : Int) ≤ (x0.size : Int) then (if (x0.extract 0 t266.size).toList = t266.toList then (some (t265, (t266.size : Int))) else (some ((-1), 1))) else (none)) else (none)))))) else (if x4 ≥ 224 then (stratumref03_Next.j1 k x0 x4 x5 (decide (x4 < 240))) else (stratumref03_Next.j1 k x0 x4 x5 false))
def stratumref03_Next.j1 : Nat → ByteArray → Int → Int → Bool → Option (Int × Int)
 | 0, _, _, _, _ => none
 | k + 1, x0, x4, x5, x27 => if x27 = true then ((stratumref03_more.f (wrap64 (x4 - 224)) x0 1).bind fun t267 => ((stratumref03_more.f t267 x0 2).bind fun t268 => ((stratumref03_Put.f k t268).bind fun t269 => (if t269.toList = ([] : List UInt8) then (some ((-1), 1)) else (if (t269.size : Int) > (x0.size : Int) then (some ((-1), 1)) else (if 0 ≤ (t269.size : Int) then (if (t269.size : Int) ≤ (x0.size : Int) then (if (x0.extract 0 t269.size).toList = t269.toList then (some (t268, (t269.size : Int))) else (some ((-1), 1))) else (none)) else (none))))))) else (if x4 ≥ 240 then (stratumref03_Next.j2 k x0 x4 x5 (decide (x4 < 248))) else (stratumref03_Next.j2 k x0 x4 x5 false))
def stratumref03_Next.j2 : Nat → ByteArray → Int → Int → Bool → Option (Int × Int)
 | 0, _, _, _, _ => none
 | k + 1, x0, x4, x5, x40 => if x40 = true then ((stratumref03_more.f (wrap64 (x4 - 240)) x0 1).bind fun t270 => ((stratumref03_more.f t270 x0 2).bind fun t271 => ((stratumref03_more.f t271 x0 3).bind fun t272 => ((stratumref03_Put.f k t272).bind fun t273 => (if t273.toList = ([] : List UInt8) then (some ((-1), 1)) else (if (t273.size : Int) > (x0.size : Int) then (some ((-1), 1)) else (if 0 ≤ (t273.size : Int) then (if (t273.size : Int) ≤ (x0.size : Int) then (if (x0.extract 0 t273.size).toList = t273.toList then (some (t272, (t273.size : Int))) else (some ((-1), 1))) else (none)) else (none)))))))) else ((stratumref03_Put.f k x5).bind fun t274 => (if t274.toList = ([] : List UInt8) then (some ((-1), 1)) else (if (t274.size : Int) > (x0.size : Int) then (some ((-1), 1)) else (if 0 ≤ (t274.size : Int) then (if (t274.size : Int) ≤ (x0.size : Int) then (if (x0.extract 0 t274.size).toList = t274.toList then (some (x5, (t274.size : Int))) else (some ((-1), 1))) else (none)) else (none)))))
end
def stratumref03_Next.f (k : Nat) (a0 : ByteArray) : Option (Int × Int) := if a0.toList = ([] : List UInt8) then (some ((-1), 0)) else (if 0 < (a0.size : Int) then (if (wrap64 (bt a0 0)) < 128 then ((stratumref03_Put.f k (wrap64 (bt a0 0))).bind fun t264 => (if t264.toList = ([] : List UInt8) then (some ((-1), 1)) else (if (t264.size : Int) > (a0.size : Int) then (some ((-1), 1)) else (if 0 ≤ (t264.size : Int) then (if (t264.size : Int) ≤ (a0.size : Int) then (if (a0.extract 0 t264.size).toList = t264.toList then (some (wrap64 (bt a0 0), (t264.size : Int))) else (some ((-1), 1))) else (none)) else (none))))) else (if (wrap64 (bt a0 0)) ≥ 192 then (stratumref03_Next.j0 k a0 (wrap64 (bt a0 0)) (-1) (decide ((wrap64 (bt a0 0)) < 224))) else (stratumref03_Next.j0 k a0 (wrap64 (bt a0 0)) (-1) false))) else (none))
end Go.Proofs.Yteejpfemaedmkaa.X
