/- TlvTakes: Decode is the document's, for all bytes (up to the limit that the statement names). -/
import Derived.Test.YteejpfemaedmkaaQG2X29
import Derived.Test.YteejpfemaedmkaaQG2PlainTlvRD
import Derived.Test.YteejpfemaedmkaaQG2PlainTlvS
namespace Go.Proofs.Yteejpfemaedmkaa.Pure
set_option linter.unusedSimpArgs false
set_option linter.unusedVariables false
open Go.RowKit Go.Proofs.Yteejpfemaedmkaa.X Go.Proofs.YteejpfemaedmkaaW.PrintWords Go.Proofs.YteejpfemaedmkaaW.PrintLast Go.Proofs.Yteejpfemaedmkaa.Plain
theorem byte_range' {l : List Int} (h : ∀ x ∈ l, (Lit.int .u8 x).wf = true) : ∀ b ∈ l, 0 ≤ b ∧ b < 256 := by
  intro b hb
  have h2 := h b hb
  rw [Lit.wf, Bool.and_eq_true, decide_eq_true_eq, decide_eq_true_eq] at h2
  simp [IntKind.min, IntKind.max, IntKind.signed, IntKind.bits] at h2
  omega
theorem TlvTakes : stratumlaw05_TlvTakes.Pure := by
  intro l _ hl hb
  have hr := byte_range' hb
  obtain ⟨q, hq⟩ : ∃ q, q = 140737488351300 + 100000000 := ⟨_, rfl⟩
  refine ⟨q, ?_⟩
  simp only [stratumlaw05_TlvTakes.f]
  rw [lives_is _ (by omega), Option.bind_some, if_pos rfl]
  by_cases hbig : (l.length : Int) > 33554432
  · rw [if_pos hbig]
  · have hlen : (decodeL l).1.length ≤ 40000000 := by
      by_cases h0 : (decodeL l).2 = 0
      · obtain ⟨r1, r2, r3, r4⟩ := decode_zero hr h0
        have := enc_fits (l := (decodeL l).1)
        rw [r3] at this
        omega
      · obtain ⟨c1, c2⟩ := decode_code l
        by_cases h : (l.length : Int) > 16777215
        · rw [c1 h]; simp
        · rw [c2 h h0]; simp
    rw [if_neg hbig, ref_decode_is _ l hr (by omega), Option.bind_some, decode_is _ l hr (by omega), Option.bind_some, if_pos rfl, same_field_self _ _ (by omega) (by omega), Option.bind_some]
end Go.Proofs.Yteejpfemaedmkaa.Pure
