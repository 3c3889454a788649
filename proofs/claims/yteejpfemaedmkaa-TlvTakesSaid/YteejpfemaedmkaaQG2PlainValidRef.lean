import Derived.Test.YteejpfemaedmkaaQG2X15
import Derived.Test.YteejpfemaedmkaaQG2PlainValid
import Derived.Test.YteejpfemaedmkaaQG2PlainUtfRef
namespace Go.Proofs.Yteejpfemaedmkaa.Plain
open Go.RowKit Go.Proofs.Yteejpfemaedmkaa.X Go.Proofs.YteejpfemaedmkaaW.PrintWords Go.Proofs.YteejpfemaedmkaaW.PrintLast
theorem ref_valid (q : Nat) (k n : Int) (s : ByteArray) (hs : s.size ≤ 140737488351232) (hq : s.size + 10 ≤ q) : stratumref04_Valid.f q k n s = some (validV k n s) := by
  obtain ⟨q, rfl⟩ : ∃ m, q = m + 1 := ⟨q - 1, by omega⟩
  simp only [stratumref04_Valid.f, stratumref04_Valid.j0, ref_valid_is s hs q (by omega), Option.bind_some, validV]
  by_cases h1 : k = 1
  · simp [h1]
  by_cases h2 : k = 2
  · simp [h2]
  by_cases h3 : k = 3
  · subst h3
    cases he : s.toList.isEmpty
    · have he' : ¬ s.toList = [] := by simpa using he
      simp [he']
    · have he' : s.toList = [] := by simpa using he
      simp [he']
  by_cases h4 : k = 4
  · by_cases hn : n = 0 <;> simp [h4, hn]
  by_cases h5 : k = 5
  · simp [h5]
  simp [h1, h2, h3, h4, h5]
end Go.Proofs.Yteejpfemaedmkaa.Plain
