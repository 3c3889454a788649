/- TlvMakes: Check, Encode and Size are the document's, for every raw record (up to the limits that the statement names). -/
import Derived.Test.YteejpfemaedmkaaQG2STlvMakes
import Derived.Test.YteejpfemaedmkaaQG2PlainTlvRE
import Derived.Test.YteejpfemaedmkaaQG2PlainTlvS
namespace Go.Proofs.Yteejpfemaedmkaa.Pure
set_option linter.unusedSimpArgs false
set_option linter.unusedVariables false
open Go.RowKit Go.Proofs.Yteejpfemaedmkaa.X Go.Proofs.YteejpfemaedmkaaW.PrintWords Go.Proofs.YteejpfemaedmkaaW.PrintLast Go.Proofs.Yteejpfemaedmkaa.Plain
theorem TlvMakes : stratumlaw05_TlvMakes.PureX := by
  intro l hl
  have hs : ∀ f ∈ l, smallF f := fun f hf => smallF_of (hl.2 f hf)
  have h1 : l.length ≤ 140737488351232 := by have h1 := hl.1; omega
  obtain ⟨q, hq⟩ : ∃ q, q = 140737488351300 + 3 * l.length + 60000000 := ⟨_, rfl⟩
  refine ⟨q, ?_⟩
  simp only [stratumlaw05_TlvMakes.f]
  obtain ⟨h, hh⟩ := heavy_is q l h1 (by omega)
  rw [lives_is _ (by omega), Option.bind_some, if_pos rfl, hh, Option.bind_some]
  cases h with
  | true => rw [if_pos rfl]
  | false =>
    rw [if_neg (by decide), ref_check_is q l hs h1 (by omega), Option.bind_some, check_is q l hs h1 (by omega), Option.bind_some, ref_encode_is q l hs h1 (by omega), Option.bind_some, encode_is q l hs h1 (by omega), Option.bind_some,
      ref_size_code q l hs h1 (by omega), Option.bind_some, size_is' q l hs h1 (by omega), Option.bind_some, if_pos rfl, if_pos rfl, alike_is _ _ (encodeL_range l) (encodeL_range l), Option.bind_some, if_pos (by simp), if_pos rfl, if_pos rfl]
    simp
end Go.Proofs.Yteejpfemaedmkaa.Pure
