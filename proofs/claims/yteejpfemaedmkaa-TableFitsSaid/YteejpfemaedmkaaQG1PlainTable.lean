import Derived.Test.YteejpfemaedmkaaQG1X4
import Derived.Test.YteejpfemaedmkaaQG1X12
import Derived.Test.YteejpfemaedmkaaQG1XOpen
namespace Go.Proofs.Yteejpfemaedmkaa.Plain
set_option linter.unusedSimpArgs false
set_option linter.unusedVariables false
open Go.RowKit Go.Proofs.Yteejpfemaedmkaa.X Go.Proofs.YteejpfemaedmkaaW.PrintWords Go.Proofs.YteejpfemaedmkaaW.PrintLast
theorem w64_smallT (x : Int) (h0 : -9223372036854775808 ≤ x) (h : x < 9223372036854775808) : wrap64 x = x := by
  unfold wrap64
  omega
theorem w64_succ (i : Nat) (h : i < 140737488351232) : wrap64 ((i : Int) + 1) = ((i + 1 : Nat) : Int) := by
  rw [w64_smallT _ (by omega) (by omega)]
  omega
theorem rd_column (l : List S35) (i : Nat) (h : i < l.length) : rd_T35 l (i : Int) = l[i] := by
  unfold rd_T35
  rw [Int.toNat_natCast, List.getD_eq_getElem?_getD, List.getElem?_eq_getElem h, Option.getD_some]
end Go.Proofs.Yteejpfemaedmkaa.Plain
