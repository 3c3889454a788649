import Derived.Test.YteejpfemaedmkaaQG2X8
import Derived.Test.YteejpfemaedmkaaQG2X5
import Derived.Test.YteejpfemaedmkaaQG2X6
import Derived.Test.YteejpfemaedmkaaQG2X7
import Derived.Test.YteejpfemaedmkaaQG2PlainTlv
import Derived.Test.YteejpfemaedmkaaQG2PlainVarS
namespace Go.Proofs.Yteejpfemaedmkaa.Plain
set_option linter.unusedSimpArgs false
set_option linter.unusedVariables false
open Go.RowKit Go.Proofs.Yteejpfemaedmkaa.X Go.Proofs.YteejpfemaedmkaaW.PrintWords Go.Proofs.YteejpfemaedmkaaW.PrintLast
theorem key_is (f : S53) (h : okF f) : tlv_key.f f.f0 f.f1.f0 f.f1.f1 f.f1.f2 = some ((keyN f : Nat) : Int) := by
  obtain ⟨k1, k2⟩ := key_hi h
  have hk := validV_kind h.2.2
  have h1 := h.1
  have h2 := h.2.1
  unfold tlv_key.f
  rw [w64_small (8 * f.f0) (by omega) (by omega), w64_small _ (by omega) (by omega), u64_small _ (by omega) (by omega), k1]
theorem length_is (q : Nat) (k n : Int) (s : ByteArray) (h0 : 0 ≤ n) (h1 : n < 18446744073709551616) (hq : 10 ≤ q) : tlv_length.f q k n s = some ((payL k n s).length : Int) := by
  unfold tlv_length.f payL
  simp only [kind_Uint.f, kind_Int.f, kind_Bool.f, Option.bind_some]
  by_cases k1 : k = 1
  · rw [if_pos k1, if_pos k1]
    obtain ⟨m, rfl⟩ := Int.eq_ofNat_of_zero_le h0
    rw [size_is q m (by omega) hq, Option.bind_some, Int.toNat_natCast]
  · rw [if_neg k1, if_neg k1]
    by_cases k2 : k = 2
    · rw [if_pos k2, if_pos k2, zig_is _ (w64_lo n) (w64_hi n), Option.bind_some]
      have z0 := zig_lo (wrap64 n)
      have z1 := zig_hi (wrap64 n) (w64_lo n) (w64_hi n)
      obtain ⟨m, hm⟩ := Int.eq_ofNat_of_zero_le z0
      rw [hm, size_is q m (by omega) hq, Option.bind_some, Int.toNat_natCast]
    · rw [if_neg k2, if_neg k2]
      by_cases k3 : k = 3
      · rw [if_pos k3, if_pos k3]
        rfl
      · rw [if_neg k3, if_neg k3, bytesOf_length]
theorem measure_loop (l : List S53) (hs : ∀ f ∈ l, smallF f) (hl : l.length ≤ 140737488351232) (d : Nat) : ∀ (k i s : Nat) (last : Int), i ≤ l.length → l.length - i = d → 140737488351300 + 2 * d < k →
    (i = 0 ∧ last = 0 ∨ 0 < i ∧ (rd_T53 l ((i : Int) - 1)).f0 = last) → 0 ≤ last → last ≤ 65535 → (s : Int) ≤ last * 140737488351300 →
    tlv_measure.l0 k l (s : Int) l (l.length : Int) (i : Int) = some (match badAt i last (l.drop i) with
      | some j => (0, j, 1)
      | none => if ((s + (encL (l.drop i)).length : Nat) : Int) > 16777215 then (0, 0, 2) else (((s + (encL (l.drop i)).length : Nat) : Int), 0, 0)) := by
  induction d with
  | zero =>
    intro k i s last h1 h2 h3 h4 h5 h6 h7
    obtain ⟨k, rfl⟩ : ∃ m, k = m + 1 := ⟨k - 1, by omega⟩
    simp only [tlv_measure.l0]
    rw [if_neg (by omega), List.drop_eq_nil_of_le (by omega)]
    have e : s + (encL ([] : List S53)).length = s := by simp [encL]
    rw [e]
    simp only [badAt]
    by_cases hb : (s : Int) > 16777215
    · rw [if_pos hb, if_pos hb]
    · rw [if_neg hb, if_neg hb]
  | succ d ih =>
    intro k i s last h1 h2 h3 h4 h5 h6 h7
    obtain ⟨k, rfl⟩ : ∃ m, k = m + 1 + 1 := ⟨k - 2, by omega⟩
    have hi : i < l.length := by omega
    obtain ⟨g0, g1, g2⟩ := hs _ (List.getElem_mem hi)
    have hj : ∀ b, b = (!(okB last l[i])) → tlv_measure.j1 (k + 1) l (s : Int) (i : Int) l (l.length : Int) (i : Int) b l[i].f0 l[i].f1.f0 l[i].f1.f1 l[i].f1.f2 = some (match badAt i last (l.drop i) with
      | some j => (0, j, 1)
      | none => if ((s + (encL (l.drop i)).length : Nat) : Int) > 16777215 then (0, 0, 2) else (((s + (encL (l.drop i)).length : Nat) : Int), 0, 0)) := by
      intro b hb
      simp only [tlv_measure.j1]
      rw [List.drop_eq_getElem_cons hi]
      unfold badAt
      cases ho : okB last l[i] with
      | false =>
        rw [ho] at hb
        rw [hb, if_pos (show (!false) = true from rfl), if_neg (by decide)]
      | true =>
        rw [ho] at hb
        obtain ⟨o1, o2⟩ := (okB_iff last _).1 ho
        obtain ⟨k1, k2⟩ := key_hi o2
        have hp : (payF l[i]).length ≤ 140737488351232 := payL_length _ _ _ g0 g1 g2
        have he := encF_length _ o2 ⟨g0, g1, g2⟩
        have v1 := vput_ten (keyN l[i]) (by omega)
        have v2 := vput_ten (payF l[i]).length (by omega)
        have hle : (encF l[i]).length = (vput (keyN l[i])).length + ((vput (payF l[i]).length).length + (payF l[i]).length) := by simp only [encF, List.length_append]
        have hpay : tlv_length.f k l[i].f1.f0 l[i].f1.f1 l[i].f1.f2 = some ((payF l[i]).length : Int) := length_is k _ _ _ g0 g1 (by omega)
        have o22 := o2.2.1
        rw [hb, if_neg (by decide), hpay, Option.bind_some, key_is _ o2, Option.bind_some, size_is k _ (by omega) (by omega), Option.bind_some, u64_small _ (by omega) (by omega), size_is k _ (by omega) (by omega), Option.bind_some,
          w64_small (((vput (keyN l[i])).length : Int) + _) (by omega) (by omega), w64_small (((vput (keyN l[i])).length : Int) + _ + _) (by omega) (by omega), w64_small _ (by omega) (by omega), w64_succ' i (by omega), if_pos rfl]
        have e1 : (s : Int) + (((vput (keyN l[i])).length : Int) + ((vput (payF l[i]).length).length : Int) + ((payF l[i]).length : Int)) = ((s + (encF l[i]).length : Nat) : Int) := by omega
        rw [e1, ih k (i + 1) (s + (encF l[i]).length) l[i].f0 (by omega) (by omega) (by omega) (.inr ⟨by omega, by rw [show ((i + 1 : Nat) : Int) - 1 = (i : Int) by omega, rd_field l i hi]⟩) (by omega) (by omega) (by omega)]
        have e2 : s + (encF l[i]).length + (encL (l.drop (i + 1))).length = s + (encL (l[i] :: l.drop (i + 1))).length := by
          simp only [encL, List.length_append]
          omega
        rw [e2]
        rfl
    have hv : kind_Valid.f (k + 1) l[i].f1.f0 l[i].f1.f1 l[i].f1.f2 = some (validV l[i].f1.f0 l[i].f1.f1 l[i].f1.f2) := kind_valid _ _ _ _ g2 (by omega)
    simp only [tlv_measure.l0]
    rw [if_pos (by omega), if_pos (by omega), if_pos (by omega), rd_field l i hi]
    by_cases c1 : l[i].f0 < 1
    · rw [if_pos c1]
      refine hj true ?_
      simp only [okB]
      rw [decide_eq_false (show ¬ 1 ≤ l[i].f0 by omega)]
      rfl
    rw [if_neg c1]
    by_cases c2 : l[i].f0 > 65535
    · rw [if_pos c2]
      refine hj true ?_
      simp only [okB]
      rw [decide_eq_false (show ¬ l[i].f0 ≤ 65535 by omega), Bool.false_and, Bool.and_false]
      rfl
    rw [if_neg c2]
    by_cases c3 : (i : Int) > 0
    · have h4 : (rd_T53 l ((i : Int) - 1)).f0 = last := by omega
      rw [if_pos c3, w64_small _ (by omega) (by omega), if_pos (by omega), if_pos (by omega), h4]
      by_cases c4 : l[i].f0 ≤ last
      · rw [if_pos c4]
        refine hj true ?_
        simp only [okB]
        rw [decide_eq_false (show ¬ last < l[i].f0 by omega), Bool.false_and, Bool.and_false, Bool.and_false]
        rfl
      · rw [if_neg c4, hv, Option.bind_some]
        refine hj _ ?_
        simp only [okB]
        rw [decide_eq_true (show 1 ≤ l[i].f0 by omega), decide_eq_true (show l[i].f0 ≤ 65535 by omega), decide_eq_true (show last < l[i].f0 by omega)]
        rfl
    · have h4 : last = 0 := by omega
      rw [if_neg c3, hv, Option.bind_some]
      refine hj _ ?_
      simp only [okB]
      rw [decide_eq_true (show 1 ≤ l[i].f0 by omega), decide_eq_true (show l[i].f0 ≤ 65535 by omega), decide_eq_true (show last < l[i].f0 by omega)]
      rfl
theorem measure_is (k : Nat) (l : List S53) (hs : ∀ f ∈ l, smallF f) (hl : l.length ≤ 140737488351232) (hk : 140737488351300 + 2 * l.length < k) : tlv_measure.f k l = some (measureL l) := by
  have h := measure_loop l hs hl l.length k 0 0 0 (by omega) (by omega) hk (.inl ⟨rfl, rfl⟩) (by omega) (by omega) (by omega)
  rw [List.drop_zero, Nat.zero_add] at h
  exact h
/-- The place and the code. -/
theorem check_is (k : Nat) (l : List S53) (hs : ∀ f ∈ l, smallF f) (hl : l.length ≤ 140737488351232) (hk : 140737488351300 + 2 * l.length < k) : tlv_Check.f k l = some ((measureL l).2.1, (measureL l).2.2) := by
  unfold tlv_Check.f
  rw [measure_is k l hs hl hk]
  rfl
theorem smallF_of {f : S53} (h : wfS53 f) : smallF f := by
  obtain ⟨_, _, h2, h3⟩ := h
  rw [Lit.wf, Bool.and_eq_true, decide_eq_true_eq, decide_eq_true_eq] at h2
  refine ⟨?_, ?_, h3⟩
  · have := h2.1; simpa [IntKind.min, IntKind.signed] using this
  · have := h2.2
    simp [IntKind.max, IntKind.signed, IntKind.bits] at this
    omega
end Go.Proofs.Yteejpfemaedmkaa.Plain
