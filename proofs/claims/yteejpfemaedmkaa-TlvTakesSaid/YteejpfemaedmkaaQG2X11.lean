-- Written by wip/printx.py: the kit's printer with functions proved by hand. Not trusted: Lean checks it.
import Derived.Test.YteejpfemaedmkaaQG2X0
import Derived.Test.YteejpfemaedmkaaQG2X1
import Derived.Test.YteejpfemaedmkaaQG2X4
import Derived.Test.YteejpfemaedmkaaQG2X9
import Derived.Test.YteejpfemaedmkaaQG2X10
namespace Go.Proofs.Yteejpfemaedmkaa.X
open Go.RowKit Go.Proofs.YteejpfemaedmkaaW.PrintWords Go.Proofs.YteejpfemaedmkaaW.PrintLast Go.Proofs.YteejpfemaedmkaaW.PrintMore
attribute [local go_sem] max2_int min2_int max_two min_two max_three min_three max_four min_four
set_option linter.unusedVariables false
set_option linter.unusedSimpArgs false
attribute [local go_sem] vx_gtr vx_leq vx_geq
attribute [local go_sem high] eqA35
mutual
def table_Extends.l0 : Nat → List (S48) → Int → Int → List (S48) → Option (Bool)
 | 0, _, _, _, _ => none
 | k + 1, x18, x19, x20, x153000 => if x20 < x19 then (if 0 ≤ x20 then (if x20 < (x18.length : Int) then (if x20 < (x153000.length : Int) then (if ((rd_T48 x18 x20).f0).toList = ((rd_T48 x153000 x20).f0).toList then (table_Extends.j1 k x18 x19 x20 (decide ((((rd_T48 x153000 x20).f1).length : Int) < (((rd_T48 x18 x20).f1).length : Int))) x153000 ((rd_T48 x18 x20).f0) ((rd_T48 x18 x20).f1) ((rd_T48 x153000 x20).f0) ((rd_T48 x153000 x20).f1)) else (table_Extends.j1 k x18 x19 x20 true x153000 ((rd_T48 x18 x20).f0) ((rd_T48 x18 x20).f1) ((rd_T48 x153000 x20).f0) ((rd_T48 x153000 x20).f1))) else (none)) else (none)) else (none)) else (some true)
def table_Extends.j1 : Nat → List (S48) → Int → Int → Bool → List (S48) → ByteArray → List (S45) → ByteArray → List (S45) → Option (Bool)
 | 0, _, _, _, _, _, _, _, _, _ => none
 | k + 1, x18, x19, x20, x43, x153000, x155000, x155001, x157000, x157001 => if x43 = true then (some false) else (table_Extends.l1 k x18 x19 x20 x155001 (x155001.length : Int) 0 x153000 x157000 x157001)
def table_Extends.l1 : Nat → List (S48) → Int → Int → List (S45) → Int → Int → List (S48) → ByteArray → List (S45) → Option (Bool)
 | 0, _, _, _, _, _, _, _, _, _ => none
 | k + 1, x18, x19, x20, x45, x46, x47, x153000, x157000, x157001 => if x47 < x46 then (if 0 ≤ x47 then (if x47 < (x45.length : Int) then (if x47 < (x157001.length : Int) then ((api_Step.f k ((rd_T45 x45 x47).f0) ((rd_T45 x157001 x47).f0)).bind fun t160 => (if t160 = true then ((api_Column_54.f k ((rd_T45 x45 x47).f1) ((rd_T45 x157001 x47).f1)).bind fun t162 => (if t162 = true then (table_Extends.l1 k x18 x19 x20 x45 x46 (wrap64 (x47 + 1)) x153000 x157000 x157001) else (some false))) else (some false))) else (none)) else (none)) else (none)) else (table_Extends.l0 k x18 x19 (wrap64 (x20 + 1)) x153000)
end
def table_Extends.f (k : Nat) (l0_0 : List (S48)) (l1_0 : List (S48)) : Option (Bool) := if (l0_0.length : Int) > (l1_0.length : Int) then (some false) else (table_Extends.l0 k l0_0 (l0_0.length : Int) 0 l1_0)
def stratumlaw13_order.f  : Option ((List (S48))) := some (([(⟨(⟨#[111, 114, 100, 101, 114]⟩ : ByteArray), (([(⟨([] : List (S85)), (([(⟨(⟨#[105, 100]⟩ : ByteArray), 1, 1⟩ : S35), (⟨(⟨#[110, 111, 116, 101]⟩ : ByteArray), 2, 4⟩ : S35)] : List (S35)))⟩ : S45), (⟨([] : List (S85)), (([(⟨(⟨#[105, 100]⟩ : ByteArray), 1, 1⟩ : S35), (⟨(⟨#[109, 101, 109, 111]⟩ : ByteArray), 2, 4⟩ : S35), (⟨(⟨#[112, 97, 105, 100]⟩ : ByteArray), 3, 3⟩ : S35)] : List (S35)))⟩ : S45)] : List (S45)))⟩ : S48)] : List (S48)))
def stratumlaw13_awake0.f (k : Nat)  : Option (Bool) := (stratumlaw13_order.f).bind fun t176 => ((table_Columns.f k t176 0 2).bind fun bt179 => ((stratumlaw13_order.f).bind fun t183 => ((table_Columns.f k t183 0 3).bind fun bt186 => ((table_Column.f k bt179.1 (⟨#[109, 101, 109, 111]⟩ : ByteArray)).bind fun bt190 => ((some (([(⟨1, (⟨1, 7, (⟨#[]⟩ : ByteArray)⟩ : S51)⟩ : S53)] : List (S53)) : List (S53))).bind fun y195 => ((stratumlaw13_order.f).bind fun t198 => ((table_Find.f t198 (⟨#[111, 114, 100, 101, 114]⟩ : ByteArray)).bind fun t201 => (if t201 = 0 then (if bt179.2 = 0 then (if bt186.2 = 132 then (if (bt179.1.length : Int) = 3 then (if bt190.2.2.2 = true then (if (bt190.1.toList == ([109, 101, 109, 111] : List UInt8) && (bt190.2.1 == 2 && (bt190.2.2.1 == 4))) = true then (if 1 ≤ (bt179.1.length : Int) then ((table_Typed.f k (bt179.1.take 1) y195).bind fun t207 => (if t207 = 0 then ((table_Typed.f k bt179.1 y195).bind fun t208 => (if t208 = 130 then ((stratumlaw13_order.f).bind fun t209 => ((table_Extends.f k ([] : List (S48)) t209).bind fun t212 => (some t212))) else (some false))) else (some false))) else (none)) else (some false)) else (some false)) else (some false)) else (some false)) else (some false)) else (some false)))))))))
def stratumlaw13_awake.f (k : Nat) : Option Bool := if stratumlaw13_awake0.f k = some true then some true else none
end Go.Proofs.Yteejpfemaedmkaa.X
