/- TlvForth: what Decode takes is a record, and its bytes are those; what it doesn't take is malformed, or too long. -/
import Derived.Test.YteejpfemaedmkaaQG1X30
import Derived.Test.YteejpfemaedmkaaQG1PlainTlvS
namespace Go.Proofs.Yteejpfemaedmkaa.Pure
set_option linter.unusedSimpArgs false
set_option linter.unusedVariables false
open Go.RowKit Go.Proofs.Yteejpfemaedmkaa.X Go.Proofs.YteejpfemaedmkaaW.PrintWords Go.Proofs.YteejpfemaedmkaaW.PrintLast Go.Proofs.Yteejpfemaedmkaa.Plain
theorem byte_range {l : List Int} (h : ∀ x ∈ l, (Lit.int .u8 x).wf = true) : ∀ b ∈ l, 0 ≤ b ∧ b < 256 := by
  intro b hb
  have h2 := h b hb
  rw [Lit.wf, Bool.and_eq_true, decide_eq_true_eq, decide_eq_true_eq] at h2
  simp [IntKind.min, IntKind.max, IntKind.signed, IntKind.bits] at h2
  omega
theorem TlvForth : stratumlaw05_TlvForth.Pure := by
  intro l _ hl hb
  have hr := byte_range hb
  obtain ⟨q, hq⟩ : ∃ q, q = 140737488351300 + 100000000 := ⟨_, rfl⟩
  refine ⟨q, ?_⟩
  simp only [stratumlaw05_TlvForth.f]
  rw [lives_is _ (by omega), Option.bind_some, if_pos rfl]
  by_cases hbig : (l.length : Int) > 33554432
  · rw [if_pos hbig]
  · rw [if_neg hbig, decode_is _ l hr (by omega), Option.bind_some]
    by_cases h0 : (decodeL l).2 = 0
    · obtain ⟨r1, r2, r3, r4⟩ := decode_zero hr h0
      have hlen : (decodeL l).1.length ≤ l.length := by
        have := enc_fits (l := (decodeL l).1)
        rw [r3] at this
        exact this
      have hm := measure_ok r1 (by rw [r3]; exact r4)
      rw [if_pos h0, check_is _ _ r2 (by omega) (by omega), Option.bind_some, encode_is _ _ r2 (by omega) (by omega), Option.bind_some]
      have he : encodeL (decodeL l).1 = (l, 0) := by
        unfold encodeL
        rw [hm, if_pos rfl, r3]
      rw [hm, he, if_pos rfl, if_pos rfl, alike_is l l hr hr, Option.bind_some, decide_eq_true rfl]
    · rw [if_neg h0]
      obtain ⟨c1, c2⟩ := decode_code l
      by_cases h : (l.length : Int) > 16777215
      · rw [c1 h, if_pos (by simp), if_pos h, if_pos rfl]
      · rw [c2 h h0, if_pos (by simp), if_neg h, if_neg (by decide)]
        rfl
end Go.Proofs.Yteejpfemaedmkaa.Pure
