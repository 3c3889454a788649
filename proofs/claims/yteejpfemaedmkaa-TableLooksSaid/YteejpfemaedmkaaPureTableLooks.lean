/- TableLooks: Find, Columns and Column are the document's, for every raw history, name, place and version. -/
import Derived.Test.YteejpfemaedmkaaSTableLooks
import Derived.Test.YteejpfemaedmkaaPlainTable
import Derived.Test.YteejpfemaedmkaaPlainAwake13
namespace Go.Proofs.Yteejpfemaedmkaa.Pure
open Go.RowKit Go.Proofs.Yteejpfemaedmkaa.X Go.Proofs.YteejpfemaedmkaaW.PrintWords Go.Proofs.YteejpfemaedmkaaW.PrintLast Go.Proofs.Yteejpfemaedmkaa.Plain
theorem TableLooks : stratumlaw13_TableLooks.PureX := by
  rintro ⟨⟨l⟩, s, a, v⟩ ⟨hh, _, _, _⟩
  have hs := smallL_of hh
  have hl : l.length ≤ 140737488351232 := by have h1 : l.length * 40 ≤ 140737488351232 := hh.1; omega
  have hc := columns_small l a v hs
  refine ⟨l.length + (columnsL l a v).1.length + 200, ?_⟩
  simp only [stratumlaw13_TableLooks.f]
  rw [awake13 _ (by omega), Option.bind_some, if_pos rfl, find_is, Option.bind_some, ref_find_is _ l s hl (by omega), Option.bind_some, if_pos rfl]
  obtain ⟨k, hk⟩ : ∃ k, l.length + (columnsL l a v).1.length + 200 = k + 1 := ⟨_, rfl⟩
  rw [hk, columns_is k l a v hs, Option.bind_some, ref_columns_is k l a v hs, Option.bind_some, if_pos rfl, same_is _ _ (by omega) (by omega), Option.bind_some]
  simp only [stratumlaw13_TableLooks.j0]
  rw [if_neg (by simp), column_is k _ s (by omega) (by omega), Option.bind_some, ref_column_is k _ s (by omega) (by omega), Option.bind_some, if_pos (by simp)]
  simp
end Go.Proofs.Yteejpfemaedmkaa.Pure
