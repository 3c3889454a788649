import Derived.Test.YteejpfemaedmkaaQG2X5
import Derived.Test.YteejpfemaedmkaaQG2PlainUtf
namespace Go.Proofs.Yteejpfemaedmkaa.Plain
open Go.RowKit Go.Proofs.Yteejpfemaedmkaa.X Go.Proofs.YteejpfemaedmkaaW.PrintWords Go.Proofs.YteejpfemaedmkaaW.PrintLast
def validV (k n : Int) (s : ByteArray) : Bool :=
  if k = 1 ∨ k = 2 then s.toList.isEmpty else if k = 3 then decide (n ≤ 1) && s.toList.isEmpty else if k = 4 then (n == 0) && validB s else if k = 5 then n == 0 else false
theorem kind_valid (q : Nat) (k n : Int) (s : ByteArray) (hs : s.size ≤ 140737488351232) (hq : s.size + 10 ≤ q) : kind_Valid.f q k n s = some (validV k n s) := by
  obtain ⟨q, rfl⟩ : ∃ m, q = m + 1 := ⟨q - 1, by omega⟩
  simp only [kind_Valid.f, kind_Valid.j0, valid_is s hs q (by omega), Option.bind_some, validV]
  by_cases h1 : k = 1
  · simp [h1]
  by_cases h2 : k = 2
  · simp [h2]
  by_cases h3 : k = 3
  · by_cases hn : n ≤ 1 <;> simp [h3, hn]
  by_cases h4 : k = 4
  · by_cases hn : n = 0 <;> simp [h4, hn]
  by_cases h5 : k = 5
  · simp [h5]
  simp [h1, h2, h3, h4, h5]
end Go.Proofs.Yteejpfemaedmkaa.Plain
