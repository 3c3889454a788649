/- TlvBack: what Encode makes of a record, Decode makes the record again; it is refused just where Check says so. -/
import Derived.Test.YteejpfemaedmkaaQG2STlvBack
import Derived.Test.YteejpfemaedmkaaQG2PlainTlvS
namespace Go.Proofs.Yteejpfemaedmkaa.Pure
set_option linter.unusedSimpArgs false
set_option linter.unusedVariables false
open Go.RowKit Go.Proofs.Yteejpfemaedmkaa.X Go.Proofs.YteejpfemaedmkaaW.PrintWords Go.Proofs.YteejpfemaedmkaaW.PrintLast Go.Proofs.Yteejpfemaedmkaa.Plain
theorem TlvBack : stratumlaw05_TlvBack.PureX := by
  intro l hl
  have hs : ∀ f ∈ l, smallF f := fun f hf => smallF_of (hl.2 f hf)
  have h1 : l.length ≤ 140737488351232 := by have h1 := hl.1; omega
  obtain ⟨q, hq⟩ : ∃ q, q = 140737488351300 + 3 * l.length + 50000000 := ⟨_, rfl⟩
  refine ⟨q + 1, ?_⟩
  simp only [stratumlaw05_TlvBack.f]
  obtain ⟨h, hh⟩ := heavy_is (q + 1) l h1 (by omega)
  rw [lives_is _ (by omega), Option.bind_some, if_pos rfl, hh, Option.bind_some]
  cases h with
  | true => rw [if_pos rfl]
  | false =>
    rw [if_neg (by decide), check_is _ l hs h1 (by omega), Option.bind_some, encode_is _ l hs h1 (by omega), Option.bind_some, size_is' _ l hs h1 (by omega), Option.bind_some]
    have hj : ∀ c b, b = false → c = (measureL l).2.2 → stratumlaw05_TlvBack.j0 (q + 1) l c (encodeL l).1 b = some true := by
      intro c b hb hc
      subst hb hc
      simp only [stratumlaw05_TlvBack.j0]
      rw [if_neg (by decide)]
      by_cases h0 : (measureL l).2.2 = 0
      · obtain ⟨r1, r2, r3⟩ := measure_zero h0
        have he : (encodeL l).1 = encL l := by unfold encodeL; rw [if_pos h0]
        rw [if_pos h0, he, decode_is q _ (encL_range l) (by omega), Option.bind_some, decode_enc r1 hs r2, if_pos rfl, same_field_self q l h1 (by omega), Option.bind_some, if_pos rfl, decide_eq_true (by omega)]
      · have he : (encodeL l).1 = [] := by unfold encodeL; rw [if_neg h0]
        rw [if_neg h0, he]
        rfl
    have hcode : (encodeL l).2 = (measureL l).2.2 := by
      unfold encodeL
      by_cases h0 : (measureL l).2.2 = 0
      · rw [if_pos h0, h0]
      · rw [if_neg h0]
    have hn : (measureL l).1 = ((encodeL l).1.length : Int) := by
      unfold encodeL
      by_cases h0 : (measureL l).2.2 = 0
      · rw [if_pos h0]
        exact (measure_zero h0).2.2
      · rw [if_neg h0]
        rcases measure_code l with c | c | c
        · exact absurd c h0
        · rw [c.2]; rfl
        · rw [c.2]; rfl
    rw [if_pos hcode.symm, if_pos rfl, if_pos hn]
    by_cases c0 : (measureL l).2.2 = 0
    · rw [if_pos c0]
      exact hj _ _ rfl rfl
    · rw [if_neg c0]
      by_cases c1 : (measureL l).2.2 = 1
      · rw [if_pos c1]
        exact hj _ _ rfl rfl
      · rw [if_neg c1]
        refine hj _ _ ?_ rfl
        rcases measure_code l with c | c | c
        · exact absurd c c0
        · exact absurd c.1 c1
        · simp [c.1]
end Go.Proofs.Yteejpfemaedmkaa.Pure
