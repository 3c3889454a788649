/-
  No cell of these rows narrows 'for every input' (looked for: loops, veiled, ifaces, maps, wideKeys, modest, calm, conditions, laid).
  DERIVED. THE GIVEN ROWS OF THIS SEAT. 15 by the template 'for every input the law returns true; each argument reads behind the call as it read before'; 0 by the template 'total and deterministic' (their statements: YteejpfemaedmkaaTotals.lean).
  GIVEN WITH THE SEED: the statements are not yours to turn. If you find one false, say at which input.
  Laid BY PROGRAM, IN A SANDBOX (cutbox-rows.mjs): the forced cells as the released guide's own fill.sh prints them over the translation 1dde34e48dcfc8d2… (all of the seat's roots in one cut). By AI agents, Wed Nov 11 2026. No macro, syntax, notation, axiom, sorry.
-/
import Derived.Test.YteejpfemaedmkaaChecked
import GoSem.Claim
import GoSem.ClaimJoined
import GoSem.ClaimMapViews
import Derived.JoinedTies
import Derived.KernelRfl
namespace Go.Proofs.Yteejpfemaedmkaa
/- THE CELL 'sum', in the pinned program and in every row, IS THE sha256 OF THE DUMP (.gsa) THAT YteejpfemaedmkaaProg.lean LOADS. Nothing in Lean hashes anything: it is a label: what it is worth is what the hold of that sum in a sandbox is worth. -/
noncomputable def Try.pinned : Pinned := { name := "yteejpfemaedmkaa", sum := "1dde34e48dcfc8d2e7973300df38ee83992949688463e1b52955c77a724a8a91", checked := Try.checked }
namespace Rows
def none {H : Type} : Left H := { results := [], args := [] }

/-- 'stratumlaw13.TableLooks': WHATEVER THE INPUT: true; the input reads as it did. -/
def tableLooksSpec : ChangeSpec := { name := "tableLooks", fn := fun _ => fun
  | [d] => { results := [.lit (.bool true)], args := [d] }
  | _ => none }
def tableLooksRow : OpenClaim := { program := "yteejpfemaedmkaa", sum := "1dde34e48dcfc8d2e7973300df38ee83992949688463e1b52955c77a724a8a91", func := "stratum/stratumlaw13.TableLooks", spec := "tableLooks", unfollowed := true, recurses := true, apart := false }
def TableLooksSaid : Prop := tableLooksRow.holds Try.pinned (OpenSpec.ofChange tableLooksSpec)

/-- ITS FALSE NEIGHBOUR: 'it returns false'. Refute it at one input. -/
def tableLooksWrong : ChangeSpec := { name := "tableLooks", fn := fun _ => fun
  | [d] => { results := [.lit (.bool false)], args := [d] }
  | _ => none }
def TableLooksWrongFalsely : Prop := tableLooksRow.holds Try.pinned (OpenSpec.ofChange tableLooksWrong)

/-- 'stratumlaw13.TableTyped': WHATEVER THE INPUT: true; the input reads as it did. -/
def tableTypedSpec : ChangeSpec := { name := "tableTyped", fn := fun _ => fun
  | [d1, d2] => { results := [.lit (.bool true)], args := [d1, d2] }
  | _ => none }
def tableTypedRow : OpenClaim := { program := "yteejpfemaedmkaa", sum := "1dde34e48dcfc8d2e7973300df38ee83992949688463e1b52955c77a724a8a91", func := "stratum/stratumlaw13.TableTyped", spec := "tableTyped", unfollowed := true, recurses := true, apart := false }
def TableTypedSaid : Prop := tableTypedRow.holds Try.pinned (OpenSpec.ofChange tableTypedSpec)

/-- ITS FALSE NEIGHBOUR: 'it returns false'. Refute it at one input. -/
def tableTypedWrong : ChangeSpec := { name := "tableTyped", fn := fun _ => fun
  | [d1, d2] => { results := [.lit (.bool false)], args := [d1, d2] }
  | _ => none }
def TableTypedWrongFalsely : Prop := tableTypedRow.holds Try.pinned (OpenSpec.ofChange tableTypedWrong)

/-- 'stratumlaw13.TableExtends': WHATEVER THE INPUT: true; the input reads as it did. -/
def tableExtendsSpec : ChangeSpec := { name := "tableExtends", fn := fun _ => fun
  | [d1, d2] => { results := [.lit (.bool true)], args := [d1, d2] }
  | _ => none }
def tableExtendsRow : OpenClaim := { program := "yteejpfemaedmkaa", sum := "1dde34e48dcfc8d2e7973300df38ee83992949688463e1b52955c77a724a8a91", func := "stratum/stratumlaw13.TableExtends", spec := "tableExtends", unfollowed := true, recurses := true, apart := false }
def TableExtendsSaid : Prop := tableExtendsRow.holds Try.pinned (OpenSpec.ofChange tableExtendsSpec)

/-- ITS FALSE NEIGHBOUR: 'it returns false'. Refute it at one input. -/
def tableExtendsWrong : ChangeSpec := { name := "tableExtends", fn := fun _ => fun
  | [d1, d2] => { results := [.lit (.bool false)], args := [d1, d2] }
  | _ => none }
def TableExtendsWrongFalsely : Prop := tableExtendsRow.holds Try.pinned (OpenSpec.ofChange tableExtendsWrong)

/-- 'stratumlaw13.TableMemory': WHATEVER THE INPUT: true; the input reads as it did. -/
def tableMemorySpec : ChangeSpec := { name := "tableMemory", fn := fun _ => fun
  | [d1, d2] => { results := [.lit (.bool true)], args := [d1, d2] }
  | _ => none }
def tableMemoryRow : OpenClaim := { program := "yteejpfemaedmkaa", sum := "1dde34e48dcfc8d2e7973300df38ee83992949688463e1b52955c77a724a8a91", func := "stratum/stratumlaw13.TableMemory", spec := "tableMemory", unfollowed := true, recurses := true, apart := false }
def TableMemorySaid : Prop := tableMemoryRow.holds Try.pinned (OpenSpec.ofChange tableMemorySpec)

/-- ITS FALSE NEIGHBOUR: 'it returns false'. Refute it at one input. -/
def tableMemoryWrong : ChangeSpec := { name := "tableMemory", fn := fun _ => fun
  | [d1, d2] => { results := [.lit (.bool false)], args := [d1, d2] }
  | _ => none }
def TableMemoryWrongFalsely : Prop := tableMemoryRow.holds Try.pinned (OpenSpec.ofChange tableMemoryWrong)

/-- 'stratumlaw13.TableCounts': WHATEVER THE INPUT: true; the input reads as it did. -/
def tableCountsSpec : ChangeSpec := { name := "tableCounts", fn := fun _ => fun
  | [d1, d2, d3] => { results := [.lit (.bool true)], args := [d1, d2, d3] }
  | _ => none }
def tableCountsRow : OpenClaim := { program := "yteejpfemaedmkaa", sum := "1dde34e48dcfc8d2e7973300df38ee83992949688463e1b52955c77a724a8a91", func := "stratum/stratumlaw13.TableCounts", spec := "tableCounts", unfollowed := true, recurses := true, apart := false }
def TableCountsSaid : Prop := tableCountsRow.holds Try.pinned (OpenSpec.ofChange tableCountsSpec)

/-- ITS FALSE NEIGHBOUR: 'it returns false'. Refute it at one input. -/
def tableCountsWrong : ChangeSpec := { name := "tableCounts", fn := fun _ => fun
  | [d1, d2, d3] => { results := [.lit (.bool false)], args := [d1, d2, d3] }
  | _ => none }
def TableCountsWrongFalsely : Prop := tableCountsRow.holds Try.pinned (OpenSpec.ofChange tableCountsWrong)

/-- 'stratumlaw13.TableGrows': WHATEVER THE INPUT: true; the input reads as it did. -/
def tableGrowsSpec : ChangeSpec := { name := "tableGrows", fn := fun _ => fun
  | [d] => { results := [.lit (.bool true)], args := [d] }
  | _ => none }
def tableGrowsRow : OpenClaim := { program := "yteejpfemaedmkaa", sum := "1dde34e48dcfc8d2e7973300df38ee83992949688463e1b52955c77a724a8a91", func := "stratum/stratumlaw13.TableGrows", spec := "tableGrows", unfollowed := true, recurses := true, apart := false }
def TableGrowsSaid : Prop := tableGrowsRow.holds Try.pinned (OpenSpec.ofChange tableGrowsSpec)

/-- ITS FALSE NEIGHBOUR: 'it returns false'. Refute it at one input. -/
def tableGrowsWrong : ChangeSpec := { name := "tableGrows", fn := fun _ => fun
  | [d] => { results := [.lit (.bool false)], args := [d] }
  | _ => none }
def TableGrowsWrongFalsely : Prop := tableGrowsRow.holds Try.pinned (OpenSpec.ofChange tableGrowsWrong)

/-- 'stratumlaw05.TlvMakes': WHATEVER THE INPUT: true; the input reads as it did. -/
def tlvMakesSpec : ChangeSpec := { name := "tlvMakes", fn := fun _ => fun
  | [d] => { results := [.lit (.bool true)], args := [d] }
  | _ => none }
def tlvMakesRow : OpenClaim := { program := "yteejpfemaedmkaa", sum := "1dde34e48dcfc8d2e7973300df38ee83992949688463e1b52955c77a724a8a91", func := "stratum/stratumlaw05.TlvMakes", spec := "tlvMakes", apart := false }
def TlvMakesSaid : Prop := tlvMakesRow.holds Try.pinned (OpenSpec.ofChange tlvMakesSpec)

/-- ITS FALSE NEIGHBOUR: 'it returns false'. Refute it at one input. -/
def tlvMakesWrong : ChangeSpec := { name := "tlvMakes", fn := fun _ => fun
  | [d] => { results := [.lit (.bool false)], args := [d] }
  | _ => none }
def TlvMakesWrongFalsely : Prop := tlvMakesRow.holds Try.pinned (OpenSpec.ofChange tlvMakesWrong)

/-- 'stratumlaw05.TlvTakes': WHATEVER THE INPUT: true; the input reads as it did. -/
def tlvTakesSpec : ChangeSpec := { name := "tlvTakes", fn := fun _ => fun
  | [d] => { results := [.lit (.bool true)], args := [d] }
  | _ => none }
def tlvTakesRow : OpenClaim := { program := "yteejpfemaedmkaa", sum := "1dde34e48dcfc8d2e7973300df38ee83992949688463e1b52955c77a724a8a91", func := "stratum/stratumlaw05.TlvTakes", spec := "tlvTakes", apart := false }
def TlvTakesSaid : Prop := tlvTakesRow.holds Try.pinned (OpenSpec.ofChange tlvTakesSpec)

/-- ITS FALSE NEIGHBOUR: 'it returns false'. Refute it at one input. -/
def tlvTakesWrong : ChangeSpec := { name := "tlvTakes", fn := fun _ => fun
  | [d] => { results := [.lit (.bool false)], args := [d] }
  | _ => none }
def TlvTakesWrongFalsely : Prop := tlvTakesRow.holds Try.pinned (OpenSpec.ofChange tlvTakesWrong)

/-- 'stratumlaw05.TlvBack': WHATEVER THE INPUT: true; the input reads as it did. -/
def tlvBackSpec : ChangeSpec := { name := "tlvBack", fn := fun _ => fun
  | [d] => { results := [.lit (.bool true)], args := [d] }
  | _ => none }
def tlvBackRow : OpenClaim := { program := "yteejpfemaedmkaa", sum := "1dde34e48dcfc8d2e7973300df38ee83992949688463e1b52955c77a724a8a91", func := "stratum/stratumlaw05.TlvBack", spec := "tlvBack", apart := false }
def TlvBackSaid : Prop := tlvBackRow.holds Try.pinned (OpenSpec.ofChange tlvBackSpec)

/-- ITS FALSE NEIGHBOUR: 'it returns false'. Refute it at one input. -/
def tlvBackWrong : ChangeSpec := { name := "tlvBack", fn := fun _ => fun
  | [d] => { results := [.lit (.bool false)], args := [d] }
  | _ => none }
def TlvBackWrongFalsely : Prop := tlvBackRow.holds Try.pinned (OpenSpec.ofChange tlvBackWrong)

/-- 'stratumlaw05.TlvForth': WHATEVER THE INPUT: true; the input reads as it did. -/
def tlvForthSpec : ChangeSpec := { name := "tlvForth", fn := fun _ => fun
  | [d] => { results := [.lit (.bool true)], args := [d] }
  | _ => none }
def tlvForthRow : OpenClaim := { program := "yteejpfemaedmkaa", sum := "1dde34e48dcfc8d2e7973300df38ee83992949688463e1b52955c77a724a8a91", func := "stratum/stratumlaw05.TlvForth", spec := "tlvForth", apart := false }
def TlvForthSaid : Prop := tlvForthRow.holds Try.pinned (OpenSpec.ofChange tlvForthSpec)

/-- ITS FALSE NEIGHBOUR: 'it returns false'. Refute it at one input. -/
def tlvForthWrong : ChangeSpec := { name := "tlvForth", fn := fun _ => fun
  | [d] => { results := [.lit (.bool false)], args := [d] }
  | _ => none }
def TlvForthWrongFalsely : Prop := tlvForthRow.holds Try.pinned (OpenSpec.ofChange tlvForthWrong)

/-- 'stratumlaw05.TlvPieces': WHATEVER THE INPUT: true; the input reads as it did. -/
def tlvPiecesSpec : ChangeSpec := { name := "tlvPieces", fn := fun _ => fun
  | [d1, d2] => { results := [.lit (.bool true)], args := [d1, d2] }
  | _ => none }
def tlvPiecesRow : OpenClaim := { program := "yteejpfemaedmkaa", sum := "1dde34e48dcfc8d2e7973300df38ee83992949688463e1b52955c77a724a8a91", func := "stratum/stratumlaw05.TlvPieces", spec := "tlvPieces", apart := false }
def TlvPiecesSaid : Prop := tlvPiecesRow.holds Try.pinned (OpenSpec.ofChange tlvPiecesSpec)

/-- ITS FALSE NEIGHBOUR: 'it returns false'. Refute it at one input. -/
def tlvPiecesWrong : ChangeSpec := { name := "tlvPieces", fn := fun _ => fun
  | [d1, d2] => { results := [.lit (.bool false)], args := [d1, d2] }
  | _ => none }
def TlvPiecesWrongFalsely : Prop := tlvPiecesRow.holds Try.pinned (OpenSpec.ofChange tlvPiecesWrong)

/-- 'stratumlaw05.TlvField': WHATEVER THE INPUT: true; the input reads as it did. -/
def tlvFieldSpec : ChangeSpec := { name := "tlvField", fn := fun _ => fun
  | [d] => { results := [.lit (.bool true)], args := [d] }
  | _ => none }
def tlvFieldRow : OpenClaim := { program := "yteejpfemaedmkaa", sum := "1dde34e48dcfc8d2e7973300df38ee83992949688463e1b52955c77a724a8a91", func := "stratum/stratumlaw05.TlvField", spec := "tlvField", apart := false }
def TlvFieldSaid : Prop := tlvFieldRow.holds Try.pinned (OpenSpec.ofChange tlvFieldSpec)

/-- ITS FALSE NEIGHBOUR: 'it returns false'. Refute it at one input. -/
def tlvFieldWrong : ChangeSpec := { name := "tlvField", fn := fun _ => fun
  | [d] => { results := [.lit (.bool false)], args := [d] }
  | _ => none }
def TlvFieldWrongFalsely : Prop := tlvFieldRow.holds Try.pinned (OpenSpec.ofChange tlvFieldWrong)

/-- 'stratumlaw05.TlvTurned': WHATEVER THE INPUT: true; the input reads as it did. -/
def tlvTurnedSpec : ChangeSpec := { name := "tlvTurned", fn := fun _ => fun
  | [d1, d2, d3] => { results := [.lit (.bool true)], args := [d1, d2, d3] }
  | _ => none }
def tlvTurnedRow : OpenClaim := { program := "yteejpfemaedmkaa", sum := "1dde34e48dcfc8d2e7973300df38ee83992949688463e1b52955c77a724a8a91", func := "stratum/stratumlaw05.TlvTurned", spec := "tlvTurned", apart := false }
def TlvTurnedSaid : Prop := tlvTurnedRow.holds Try.pinned (OpenSpec.ofChange tlvTurnedSpec)

/-- ITS FALSE NEIGHBOUR: 'it returns false'. Refute it at one input. -/
def tlvTurnedWrong : ChangeSpec := { name := "tlvTurned", fn := fun _ => fun
  | [d1, d2, d3] => { results := [.lit (.bool false)], args := [d1, d2, d3] }
  | _ => none }
def TlvTurnedWrongFalsely : Prop := tlvTurnedRow.holds Try.pinned (OpenSpec.ofChange tlvTurnedWrong)

/-- 'stratumlaw05.TlvKeeps': WHATEVER THE INPUT: true; the input reads as it did. -/
def tlvKeepsSpec : ChangeSpec := { name := "tlvKeeps", fn := fun _ => fun
  | [d] => { results := [.lit (.bool true)], args := [d] }
  | _ => none }
def tlvKeepsRow : OpenClaim := { program := "yteejpfemaedmkaa", sum := "1dde34e48dcfc8d2e7973300df38ee83992949688463e1b52955c77a724a8a91", func := "stratum/stratumlaw05.TlvKeeps", spec := "tlvKeeps", apart := false }
def TlvKeepsSaid : Prop := tlvKeepsRow.holds Try.pinned (OpenSpec.ofChange tlvKeepsSpec)

/-- ITS FALSE NEIGHBOUR: 'it returns false'. Refute it at one input. -/
def tlvKeepsWrong : ChangeSpec := { name := "tlvKeeps", fn := fun _ => fun
  | [d] => { results := [.lit (.bool false)], args := [d] }
  | _ => none }
def TlvKeepsWrongFalsely : Prop := tlvKeepsRow.holds Try.pinned (OpenSpec.ofChange tlvKeepsWrong)

/-- 'stratumlaw13.TableFits': WHATEVER THE INPUT: true; the input reads as it did. -/
def tableFitsSpec : ChangeSpec := { name := "tableFits", fn := fun _ => fun
  | [d1, d2, d3] => { results := [.lit (.bool true)], args := [d1, d2, d3] }
  | _ => none }
def tableFitsRow : OpenClaim := { program := "yteejpfemaedmkaa", sum := "1dde34e48dcfc8d2e7973300df38ee83992949688463e1b52955c77a724a8a91", func := "stratum/stratumlaw13.TableFits", spec := "tableFits", unfollowed := true, recurses := true, apart := false }
def TableFitsSaid : Prop := tableFitsRow.holds Try.pinned (OpenSpec.ofChange tableFitsSpec)

/-- ITS FALSE NEIGHBOUR: 'it returns false'. Refute it at one input. -/
def tableFitsWrong : ChangeSpec := { name := "tableFits", fn := fun _ => fun
  | [d1, d2, d3] => { results := [.lit (.bool false)], args := [d1, d2, d3] }
  | _ => none }
def TableFitsWrongFalsely : Prop := tableFitsRow.holds Try.pinned (OpenSpec.ofChange tableFitsWrong)

/- THE SECOND FORM. 'bulk': how many values and letters a reading holds, each counted each time it is reached (what is shared counts as often as it is met; a slice's spare places count too). A statement '..UptoSaid' is the law's where the arguments, and the package variables that the reading takes, are together of bulk at most 1048576: NARROWER than '..Said'. Prove '..Said' where nothing that the law and all that it calls make is longer than what came in: it says more and counts as full. Else prove '..UptoSaid'. A law counts once. -/
mutual
def uptoBulk {H : Type} : DataW H → Nat
  | .lit (.string bytes) => bytes.length + 1
  | .lit _ => 1
  | .nil => 1
  | .ptr d => uptoBulk d + 1
  | .slice elems spare => uptoBulkAll elems + uptoBulkAll spare + 1
  | .agg parts => uptoBulkAll parts + 1
  | .iface _ d => uptoBulk d + 1
  | .map entries => uptoBulkEntries entries + 1
  | .held _ => 1
def uptoBulkAll {H : Type} : List (DataW H) → Nat
  | [] => 0
  | d :: r => uptoBulk d + uptoBulkAll r
def uptoBulkEntries {H : Type} : List (Lit × DataW H) → Nat
  | [] => 0
  | x :: r => uptoBulkEntry x + uptoBulkEntries r
def uptoBulkEntry {H : Type} : Lit × DataW H → Nat
  | (.string bytes, d) => bytes.length + uptoBulk d + 1
  | (_, d) => uptoBulk d + 1
 end
def uptoSmall : (H : Type) → List (DataW H) → Bool := fun _ ds => decide (uptoBulkAll ds ≤ 1048576)
def OpenSpec.upto (s : _root_.Go.ChangeSpec) : _root_.Go.OpenSpec := { _root_.Go.OpenSpec.ofChange s with cond := some uptoSmall }

/-- 'stratumlaw13.TableLooks', WHERE WHAT IT READS IS OF BULK AT MOST 1048576: true; the input reads as it did. -/
def tableLooksUptoRow : OpenClaim := { program := "yteejpfemaedmkaa", sum := "1dde34e48dcfc8d2e7973300df38ee83992949688463e1b52955c77a724a8a91", func := "stratum/stratumlaw13.TableLooks", spec := "tableLooks", unfollowed := true, recurses := true, apart := false, narrowed := true }
def TableLooksUptoSaid : Prop := tableLooksUptoRow.holds Try.pinned (OpenSpec.upto tableLooksSpec)

/-- 'stratumlaw13.TableTyped', WHERE WHAT IT READS IS OF BULK AT MOST 1048576: true; the input reads as it did. -/
def tableTypedUptoRow : OpenClaim := { program := "yteejpfemaedmkaa", sum := "1dde34e48dcfc8d2e7973300df38ee83992949688463e1b52955c77a724a8a91", func := "stratum/stratumlaw13.TableTyped", spec := "tableTyped", unfollowed := true, recurses := true, apart := false, narrowed := true }
def TableTypedUptoSaid : Prop := tableTypedUptoRow.holds Try.pinned (OpenSpec.upto tableTypedSpec)

/-- 'stratumlaw13.TableExtends', WHERE WHAT IT READS IS OF BULK AT MOST 1048576: true; the input reads as it did. -/
def tableExtendsUptoRow : OpenClaim := { program := "yteejpfemaedmkaa", sum := "1dde34e48dcfc8d2e7973300df38ee83992949688463e1b52955c77a724a8a91", func := "stratum/stratumlaw13.TableExtends", spec := "tableExtends", unfollowed := true, recurses := true, apart := false, narrowed := true }
def TableExtendsUptoSaid : Prop := tableExtendsUptoRow.holds Try.pinned (OpenSpec.upto tableExtendsSpec)

/-- 'stratumlaw13.TableMemory', WHERE WHAT IT READS IS OF BULK AT MOST 1048576: true; the input reads as it did. -/
def tableMemoryUptoRow : OpenClaim := { program := "yteejpfemaedmkaa", sum := "1dde34e48dcfc8d2e7973300df38ee83992949688463e1b52955c77a724a8a91", func := "stratum/stratumlaw13.TableMemory", spec := "tableMemory", unfollowed := true, recurses := true, apart := false, narrowed := true }
def TableMemoryUptoSaid : Prop := tableMemoryUptoRow.holds Try.pinned (OpenSpec.upto tableMemorySpec)

/-- 'stratumlaw13.TableCounts', WHERE WHAT IT READS IS OF BULK AT MOST 1048576: true; the input reads as it did. -/
def tableCountsUptoRow : OpenClaim := { program := "yteejpfemaedmkaa", sum := "1dde34e48dcfc8d2e7973300df38ee83992949688463e1b52955c77a724a8a91", func := "stratum/stratumlaw13.TableCounts", spec := "tableCounts", unfollowed := true, recurses := true, apart := false, narrowed := true }
def TableCountsUptoSaid : Prop := tableCountsUptoRow.holds Try.pinned (OpenSpec.upto tableCountsSpec)

/-- 'stratumlaw13.TableGrows', WHERE WHAT IT READS IS OF BULK AT MOST 1048576: true; the input reads as it did. -/
def tableGrowsUptoRow : OpenClaim := { program := "yteejpfemaedmkaa", sum := "1dde34e48dcfc8d2e7973300df38ee83992949688463e1b52955c77a724a8a91", func := "stratum/stratumlaw13.TableGrows", spec := "tableGrows", unfollowed := true, recurses := true, apart := false, narrowed := true }
def TableGrowsUptoSaid : Prop := tableGrowsUptoRow.holds Try.pinned (OpenSpec.upto tableGrowsSpec)

/-- 'stratumlaw05.TlvMakes', WHERE WHAT IT READS IS OF BULK AT MOST 1048576: true; the input reads as it did. -/
def tlvMakesUptoRow : OpenClaim := { program := "yteejpfemaedmkaa", sum := "1dde34e48dcfc8d2e7973300df38ee83992949688463e1b52955c77a724a8a91", func := "stratum/stratumlaw05.TlvMakes", spec := "tlvMakes", apart := false, narrowed := true }
def TlvMakesUptoSaid : Prop := tlvMakesUptoRow.holds Try.pinned (OpenSpec.upto tlvMakesSpec)

/-- 'stratumlaw05.TlvTakes', WHERE WHAT IT READS IS OF BULK AT MOST 1048576: true; the input reads as it did. -/
def tlvTakesUptoRow : OpenClaim := { program := "yteejpfemaedmkaa", sum := "1dde34e48dcfc8d2e7973300df38ee83992949688463e1b52955c77a724a8a91", func := "stratum/stratumlaw05.TlvTakes", spec := "tlvTakes", apart := false, narrowed := true }
def TlvTakesUptoSaid : Prop := tlvTakesUptoRow.holds Try.pinned (OpenSpec.upto tlvTakesSpec)

/-- 'stratumlaw05.TlvBack', WHERE WHAT IT READS IS OF BULK AT MOST 1048576: true; the input reads as it did. -/
def tlvBackUptoRow : OpenClaim := { program := "yteejpfemaedmkaa", sum := "1dde34e48dcfc8d2e7973300df38ee83992949688463e1b52955c77a724a8a91", func := "stratum/stratumlaw05.TlvBack", spec := "tlvBack", apart := false, narrowed := true }
def TlvBackUptoSaid : Prop := tlvBackUptoRow.holds Try.pinned (OpenSpec.upto tlvBackSpec)

/-- 'stratumlaw05.TlvForth', WHERE WHAT IT READS IS OF BULK AT MOST 1048576: true; the input reads as it did. -/
def tlvForthUptoRow : OpenClaim := { program := "yteejpfemaedmkaa", sum := "1dde34e48dcfc8d2e7973300df38ee83992949688463e1b52955c77a724a8a91", func := "stratum/stratumlaw05.TlvForth", spec := "tlvForth", apart := false, narrowed := true }
def TlvForthUptoSaid : Prop := tlvForthUptoRow.holds Try.pinned (OpenSpec.upto tlvForthSpec)

/-- 'stratumlaw05.TlvPieces', WHERE WHAT IT READS IS OF BULK AT MOST 1048576: true; the input reads as it did. -/
def tlvPiecesUptoRow : OpenClaim := { program := "yteejpfemaedmkaa", sum := "1dde34e48dcfc8d2e7973300df38ee83992949688463e1b52955c77a724a8a91", func := "stratum/stratumlaw05.TlvPieces", spec := "tlvPieces", apart := false, narrowed := true }
def TlvPiecesUptoSaid : Prop := tlvPiecesUptoRow.holds Try.pinned (OpenSpec.upto tlvPiecesSpec)

/-- 'stratumlaw05.TlvField', WHERE WHAT IT READS IS OF BULK AT MOST 1048576: true; the input reads as it did. -/
def tlvFieldUptoRow : OpenClaim := { program := "yteejpfemaedmkaa", sum := "1dde34e48dcfc8d2e7973300df38ee83992949688463e1b52955c77a724a8a91", func := "stratum/stratumlaw05.TlvField", spec := "tlvField", apart := false, narrowed := true }
def TlvFieldUptoSaid : Prop := tlvFieldUptoRow.holds Try.pinned (OpenSpec.upto tlvFieldSpec)

/-- 'stratumlaw05.TlvTurned', WHERE WHAT IT READS IS OF BULK AT MOST 1048576: true; the input reads as it did. -/
def tlvTurnedUptoRow : OpenClaim := { program := "yteejpfemaedmkaa", sum := "1dde34e48dcfc8d2e7973300df38ee83992949688463e1b52955c77a724a8a91", func := "stratum/stratumlaw05.TlvTurned", spec := "tlvTurned", apart := false, narrowed := true }
def TlvTurnedUptoSaid : Prop := tlvTurnedUptoRow.holds Try.pinned (OpenSpec.upto tlvTurnedSpec)

/-- 'stratumlaw05.TlvKeeps', WHERE WHAT IT READS IS OF BULK AT MOST 1048576: true; the input reads as it did. -/
def tlvKeepsUptoRow : OpenClaim := { program := "yteejpfemaedmkaa", sum := "1dde34e48dcfc8d2e7973300df38ee83992949688463e1b52955c77a724a8a91", func := "stratum/stratumlaw05.TlvKeeps", spec := "tlvKeeps", apart := false, narrowed := true }
def TlvKeepsUptoSaid : Prop := tlvKeepsUptoRow.holds Try.pinned (OpenSpec.upto tlvKeepsSpec)

/-- 'stratumlaw13.TableFits', WHERE WHAT IT READS IS OF BULK AT MOST 1048576: true; the input reads as it did. -/
def tableFitsUptoRow : OpenClaim := { program := "yteejpfemaedmkaa", sum := "1dde34e48dcfc8d2e7973300df38ee83992949688463e1b52955c77a724a8a91", func := "stratum/stratumlaw13.TableFits", spec := "tableFits", unfollowed := true, recurses := true, apart := false, narrowed := true }
def TableFitsUptoSaid : Prop := tableFitsUptoRow.holds Try.pinned (OpenSpec.upto tableFitsSpec)

end Rows
end Go.Proofs.Yteejpfemaedmkaa
