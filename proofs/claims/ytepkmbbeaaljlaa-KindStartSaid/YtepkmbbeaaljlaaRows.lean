/-
  No cell of these rows narrows 'for every input' (looked for: loops, veiled, ifaces, maps, wideKeys, modest, calm, conditions, laid).
  DERIVED. THE GIVEN ROWS OF THIS SEAT. 6 by the template 'for every input the law returns true; each argument reads behind the call as it read before'; 0 by the template 'total and deterministic' (their statements: YtepkmbbeaaljlaaTotals.lean).
  GIVEN WITH THE SEED: the statements are not yours to turn. If you find one false, say at which input.
  Laid BY PROGRAM, IN A SANDBOX (cutbox-rows.mjs): the forced cells as the released guide's own fill.sh prints them over the translation d9160ca775333e8f… (all of the seat's roots in one cut). By AI agents, Wed Nov 11 2026. No macro, syntax, notation, axiom, sorry.
-/
import Derived.Test.YtepkmbbeaaljlaaChecked
import GoSem.Claim
import GoSem.ClaimJoined
import GoSem.ClaimMapViews
import Derived.JoinedTies
import Derived.KernelRfl
namespace Go.Proofs.Ytepkmbbeaaljlaa
/- THE CELL 'sum', in the pinned program and in every row, IS THE sha256 OF THE DUMP (.gsa) THAT YtepkmbbeaaljlaaProg.lean LOADS. Nothing in Lean hashes anything: it is a label: what it is worth is what the hold of that sum in a sandbox is worth. -/
noncomputable def Try.pinned : Pinned := { name := "ytepkmbbeaaljlaa", sum := "d9160ca775333e8f48dcd076eeff66b0d5863a941e7b8b03b47ec71c40aeab59", checked := Try.checked }
namespace Rows
def none {H : Type} : Left H := { results := [], args := [] }

/-- 'stratumlaw04.KindExact': WHATEVER THE INPUT: true; the input reads as it did. -/
def kindExactSpec : ChangeSpec := { name := "kindExact", fn := fun _ => fun
  | [d] => { results := [.lit (.bool true)], args := [d] }
  | _ => none }
def kindExactRow : OpenClaim := { program := "ytepkmbbeaaljlaa", sum := "d9160ca775333e8f48dcd076eeff66b0d5863a941e7b8b03b47ec71c40aeab59", func := "stratum/stratumlaw04.KindExact", spec := "kindExact", apart := false }
def KindExactSaid : Prop := kindExactRow.holds Try.pinned (OpenSpec.ofChange kindExactSpec)

/-- ITS FALSE NEIGHBOUR: 'it returns false'. Refute it at one input. -/
def kindExactWrong : ChangeSpec := { name := "kindExact", fn := fun _ => fun
  | [d] => { results := [.lit (.bool false)], args := [d] }
  | _ => none }
def KindExactWrongFalsely : Prop := kindExactRow.holds Try.pinned (OpenSpec.ofChange kindExactWrong)

/-- 'stratumlaw04.KindOrder': WHATEVER THE INPUT: true; the input reads as it did. -/
def kindOrderSpec : ChangeSpec := { name := "kindOrder", fn := fun _ => fun
  | [d1, d2, d3] => { results := [.lit (.bool true)], args := [d1, d2, d3] }
  | _ => none }
def kindOrderRow : OpenClaim := { program := "ytepkmbbeaaljlaa", sum := "d9160ca775333e8f48dcd076eeff66b0d5863a941e7b8b03b47ec71c40aeab59", func := "stratum/stratumlaw04.KindOrder", spec := "kindOrder", apart := false }
def KindOrderSaid : Prop := kindOrderRow.holds Try.pinned (OpenSpec.ofChange kindOrderSpec)

/-- ITS FALSE NEIGHBOUR: 'it returns false'. Refute it at one input. -/
def kindOrderWrong : ChangeSpec := { name := "kindOrder", fn := fun _ => fun
  | [d1, d2, d3] => { results := [.lit (.bool false)], args := [d1, d2, d3] }
  | _ => none }
def KindOrderWrongFalsely : Prop := kindOrderRow.holds Try.pinned (OpenSpec.ofChange kindOrderWrong)

/-- 'stratumlaw04.KindNumbers': WHATEVER THE INPUT: true; the input reads as it did. -/
def kindNumbersSpec : ChangeSpec := { name := "kindNumbers", fn := fun _ => fun
  | [d] => { results := [.lit (.bool true)], args := [d] }
  | _ => none }
def kindNumbersRow : OpenClaim := { program := "ytepkmbbeaaljlaa", sum := "d9160ca775333e8f48dcd076eeff66b0d5863a941e7b8b03b47ec71c40aeab59", func := "stratum/stratumlaw04.KindNumbers", spec := "kindNumbers", apart := false }
def KindNumbersSaid : Prop := kindNumbersRow.holds Try.pinned (OpenSpec.ofChange kindNumbersSpec)

/-- ITS FALSE NEIGHBOUR: 'it returns false'. Refute it at one input. -/
def kindNumbersWrong : ChangeSpec := { name := "kindNumbers", fn := fun _ => fun
  | [d] => { results := [.lit (.bool false)], args := [d] }
  | _ => none }
def KindNumbersWrongFalsely : Prop := kindNumbersRow.holds Try.pinned (OpenSpec.ofChange kindNumbersWrong)

/-- 'stratumlaw04.KindNames': WHATEVER THE INPUT: true; the input reads as it did. -/
def kindNamesSpec : ChangeSpec := { name := "kindNames", fn := fun _ => fun
  | [d1, d2] => { results := [.lit (.bool true)], args := [d1, d2] }
  | _ => none }
def kindNamesRow : OpenClaim := { program := "ytepkmbbeaaljlaa", sum := "d9160ca775333e8f48dcd076eeff66b0d5863a941e7b8b03b47ec71c40aeab59", func := "stratum/stratumlaw04.KindNames", spec := "kindNames", apart := false }
def KindNamesSaid : Prop := kindNamesRow.holds Try.pinned (OpenSpec.ofChange kindNamesSpec)

/-- ITS FALSE NEIGHBOUR: 'it returns false'. Refute it at one input. -/
def kindNamesWrong : ChangeSpec := { name := "kindNames", fn := fun _ => fun
  | [d1, d2] => { results := [.lit (.bool false)], args := [d1, d2] }
  | _ => none }
def KindNamesWrongFalsely : Prop := kindNamesRow.holds Try.pinned (OpenSpec.ofChange kindNamesWrong)

/-- 'stratumlaw04.KindValid': WHATEVER THE INPUT: true; the input reads as it did. -/
def kindValidSpec : ChangeSpec := { name := "kindValid", fn := fun _ => fun
  | [d1, d2, d3] => { results := [.lit (.bool true)], args := [d1, d2, d3] }
  | _ => none }
def kindValidRow : OpenClaim := { program := "ytepkmbbeaaljlaa", sum := "d9160ca775333e8f48dcd076eeff66b0d5863a941e7b8b03b47ec71c40aeab59", func := "stratum/stratumlaw04.KindValid", spec := "kindValid", apart := false }
def KindValidSaid : Prop := kindValidRow.holds Try.pinned (OpenSpec.ofChange kindValidSpec)

/-- ITS FALSE NEIGHBOUR: 'it returns false'. Refute it at one input. -/
def kindValidWrong : ChangeSpec := { name := "kindValid", fn := fun _ => fun
  | [d1, d2, d3] => { results := [.lit (.bool false)], args := [d1, d2, d3] }
  | _ => none }
def KindValidWrongFalsely : Prop := kindValidRow.holds Try.pinned (OpenSpec.ofChange kindValidWrong)

/-- 'stratumlaw04.KindStart': WHATEVER THE INPUT: true; the input reads as it did. -/
def kindStartSpec : ChangeSpec := { name := "kindStart", fn := fun _ => fun
  | [d] => { results := [.lit (.bool true)], args := [d] }
  | _ => none }
def kindStartRow : OpenClaim := { program := "ytepkmbbeaaljlaa", sum := "d9160ca775333e8f48dcd076eeff66b0d5863a941e7b8b03b47ec71c40aeab59", func := "stratum/stratumlaw04.KindStart", spec := "kindStart", apart := false }
def KindStartSaid : Prop := kindStartRow.holds Try.pinned (OpenSpec.ofChange kindStartSpec)

/-- ITS FALSE NEIGHBOUR: 'it returns false'. Refute it at one input. -/
def kindStartWrong : ChangeSpec := { name := "kindStart", fn := fun _ => fun
  | [d] => { results := [.lit (.bool false)], args := [d] }
  | _ => none }
def KindStartWrongFalsely : Prop := kindStartRow.holds Try.pinned (OpenSpec.ofChange kindStartWrong)

/- THE SECOND FORM. 'bulk': how many values and letters a reading holds, each counted each time it is reached (what is shared counts as often as it is met; a slice's spare places count too). A statement '..UptoSaid' is the law's where the arguments, and the package variables that the reading takes, are together of bulk at most 1048576: NARROWER than '..Said'. Prove '..Said' where nothing that the law and all that it calls make is longer than what came in: it says more and counts as full. Else prove '..UptoSaid'. A law counts once. -/
mutual
def uptoBulk {H : Type} : DataW H → Nat
  | .lit (.string bytes) => bytes.length + 1
  | .lit _ => 1
  | .nil => 1
  | .ptr d => uptoBulk d + 1
  | .slice elems spare => uptoBulkAll elems + uptoBulkAll spare + 1
  | .agg parts => uptoBulkAll parts + 1
  | .iface _ d => uptoBulk d + 1
  | .map entries => uptoBulkEntries entries + 1
  | .held _ => 1
def uptoBulkAll {H : Type} : List (DataW H) → Nat
  | [] => 0
  | d :: r => uptoBulk d + uptoBulkAll r
def uptoBulkEntries {H : Type} : List (Lit × DataW H) → Nat
  | [] => 0
  | x :: r => uptoBulkEntry x + uptoBulkEntries r
def uptoBulkEntry {H : Type} : Lit × DataW H → Nat
  | (.string bytes, d) => bytes.length + uptoBulk d + 1
  | (_, d) => uptoBulk d + 1
 end
def uptoSmall : (H : Type) → List (DataW H) → Bool := fun _ ds => decide (uptoBulkAll ds ≤ 1048576)
def OpenSpec.upto (s : _root_.Go.ChangeSpec) : _root_.Go.OpenSpec := { _root_.Go.OpenSpec.ofChange s with cond := some uptoSmall }

/-- 'stratumlaw04.KindExact', WHERE WHAT IT READS IS OF BULK AT MOST 1048576: true; the input reads as it did. -/
def kindExactUptoRow : OpenClaim := { program := "ytepkmbbeaaljlaa", sum := "d9160ca775333e8f48dcd076eeff66b0d5863a941e7b8b03b47ec71c40aeab59", func := "stratum/stratumlaw04.KindExact", spec := "kindExact", apart := false, narrowed := true }
def KindExactUptoSaid : Prop := kindExactUptoRow.holds Try.pinned (OpenSpec.upto kindExactSpec)

/-- 'stratumlaw04.KindOrder', WHERE WHAT IT READS IS OF BULK AT MOST 1048576: true; the input reads as it did. -/
def kindOrderUptoRow : OpenClaim := { program := "ytepkmbbeaaljlaa", sum := "d9160ca775333e8f48dcd076eeff66b0d5863a941e7b8b03b47ec71c40aeab59", func := "stratum/stratumlaw04.KindOrder", spec := "kindOrder", apart := false, narrowed := true }
def KindOrderUptoSaid : Prop := kindOrderUptoRow.holds Try.pinned (OpenSpec.upto kindOrderSpec)

/-- 'stratumlaw04.KindNumbers', WHERE WHAT IT READS IS OF BULK AT MOST 1048576: true; the input reads as it did. -/
def kindNumbersUptoRow : OpenClaim := { program := "ytepkmbbeaaljlaa", sum := "d9160ca775333e8f48dcd076eeff66b0d5863a941e7b8b03b47ec71c40aeab59", func := "stratum/stratumlaw04.KindNumbers", spec := "kindNumbers", apart := false, narrowed := true }
def KindNumbersUptoSaid : Prop := kindNumbersUptoRow.holds Try.pinned (OpenSpec.upto kindNumbersSpec)

/-- 'stratumlaw04.KindNames', WHERE WHAT IT READS IS OF BULK AT MOST 1048576: true; the input reads as it did. -/
def kindNamesUptoRow : OpenClaim := { program := "ytepkmbbeaaljlaa", sum := "d9160ca775333e8f48dcd076eeff66b0d5863a941e7b8b03b47ec71c40aeab59", func := "stratum/stratumlaw04.KindNames", spec := "kindNames", apart := false, narrowed := true }
def KindNamesUptoSaid : Prop := kindNamesUptoRow.holds Try.pinned (OpenSpec.upto kindNamesSpec)

/-- 'stratumlaw04.KindValid', WHERE WHAT IT READS IS OF BULK AT MOST 1048576: true; the input reads as it did. -/
def kindValidUptoRow : OpenClaim := { program := "ytepkmbbeaaljlaa", sum := "d9160ca775333e8f48dcd076eeff66b0d5863a941e7b8b03b47ec71c40aeab59", func := "stratum/stratumlaw04.KindValid", spec := "kindValid", apart := false, narrowed := true }
def KindValidUptoSaid : Prop := kindValidUptoRow.holds Try.pinned (OpenSpec.upto kindValidSpec)

/-- 'stratumlaw04.KindStart', WHERE WHAT IT READS IS OF BULK AT MOST 1048576: true; the input reads as it did. -/
def kindStartUptoRow : OpenClaim := { program := "ytepkmbbeaaljlaa", sum := "d9160ca775333e8f48dcd076eeff66b0d5863a941e7b8b03b47ec71c40aeab59", func := "stratum/stratumlaw04.KindStart", spec := "kindStart", apart := false, narrowed := true }
def KindStartUptoSaid : Prop := kindStartUptoRow.holds Try.pinned (OpenSpec.upto kindStartSpec)

end Rows
end Go.Proofs.Ytepkmbbeaaljlaa
