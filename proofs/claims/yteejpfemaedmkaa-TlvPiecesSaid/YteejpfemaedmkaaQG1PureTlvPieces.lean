/- TlvPieces: a record's bytes are those of its first fields and of its others, one behind the other. -/
import Derived.Test.YteejpfemaedmkaaQG1STlvPieces
import Derived.Test.YteejpfemaedmkaaQG1PlainTlvS
namespace Go.Proofs.Yteejpfemaedmkaa.Pure
set_option linter.unusedSimpArgs false
set_option linter.unusedVariables false
open Go.RowKit Go.Proofs.Yteejpfemaedmkaa.X Go.Proofs.YteejpfemaedmkaaW.PrintWords Go.Proofs.YteejpfemaedmkaaW.PrintLast Go.Proofs.Yteejpfemaedmkaa.Plain
theorem rise_take : ∀ (l : List S53) (last : Int) (n : Nat), riseL last l → riseL last (l.take n)
  | [], _, n, _ => by rw [List.take_nil]; trivial
  | f :: l, last, 0, _ => trivial
  | f :: l, last, n + 1, h => ⟨h.1, h.2.1, rise_take l f.f0 n h.2.2⟩
theorem rise_less : ∀ (l : List S53) (a b : Int), b ≤ a → riseL a l → riseL b l
  | [], _, _, _, _ => trivial
  | f :: l, a, b, h, hr => ⟨by have := hr.1; omega, hr.2.1, hr.2.2⟩
theorem rise_drop : ∀ (l : List S53) (last : Int) (n : Nat), 0 ≤ last → riseL last l → riseL 0 (l.drop n)
  | [], _, n, _, _ => by rw [List.drop_nil]; trivial
  | f :: l, last, 0, h0, h => rise_less _ _ _ h0 h
  | f :: l, last, n + 1, h0, h => rise_drop l f.f0 n (by have := h.1; omega) h.2.2
theorem measure_two {l : List S53} (h : (measureL l).2.2 = 2) : riseL 0 l := by
  unfold measureL at h
  cases hb : badAt 0 0 l with
  | some j => rw [hb] at h; cases h
  | none => exact (badAt_none l 0 0).1 hb
theorem measure_rise {l : List S53} (h : riseL 0 l) : (measureL l).2.2 ≠ 1 := by
  unfold measureL
  rw [(badAt_none l 0 0).2 h]
  simp only
  split <;> simp
theorem code_is (l : List S53) : (encodeL l).2 = (measureL l).2.2 := by
  unfold encodeL
  by_cases h0 : (measureL l).2.2 = 0
  · rw [if_pos h0, h0]
  · rw [if_neg h0]
theorem TlvPieces : stratumlaw05_TlvPieces.PureX := by
  intro l c hl _
  have hs : ∀ f ∈ l, smallF f := fun f hf => smallF_of (hl.2 f hf)
  have h1 : l.length ≤ 140737488351232 := by have h1 := hl.1; omega
  obtain ⟨q, hq⟩ : ∃ q, q = 140737488351300 + 3 * l.length + 50000000 := ⟨_, rfl⟩
  refine ⟨q + 1, ?_⟩
  simp only [stratumlaw05_TlvPieces.f]
  obtain ⟨h, hh⟩ := heavy_is (q + 1) l h1 (by omega)
  rw [lives_is _ (by omega), Option.bind_some, if_pos rfl, hh, Option.bind_some]
  have hj : ∀ b, (b = true ∨ (0 ≤ c ∧ c ≤ (l.length : Int))) → stratumlaw05_TlvPieces.j0 (q + 1) l c b = some true := by
    intro b hb
    simp only [stratumlaw05_TlvPieces.j0]
    cases b with
    | true => rw [if_pos rfl]
    | false =>
      obtain ⟨b0, b1⟩ : 0 ≤ c ∧ c ≤ (l.length : Int) := hb.resolve_left (by decide)
      have ht : (l.take c.toNat).length ≤ l.length := by rw [List.length_take]; omega
      have hd : (l.drop c.toNat).length ≤ l.length := by rw [List.length_drop]; omega
      have hst : ∀ f ∈ l.take c.toNat, smallF f := fun f hf => hs f (List.mem_of_mem_take hf)
      have hsd : ∀ f ∈ l.drop c.toNat, smallF f := fun f hf => hs f (List.mem_of_mem_drop hf)
      rw [if_neg (by decide), encode_is _ l hs h1 (by omega), Option.bind_some, if_pos b0, if_pos b1, encode_is _ _ hst (by omega) (by omega), Option.bind_some, encode_is _ _ hsd (by omega) (by omega), Option.bind_some, code_is, code_is, code_is]
      by_cases c0 : (measureL l).2.2 = 0
      · obtain ⟨r1, r2, r3⟩ := measure_zero c0
        have happ : encL l = encL (l.take c.toNat) ++ encL (l.drop c.toNat) := by rw [← encL_append, List.take_append_drop]
        have hlen : (encL l).length = (encL (l.take c.toNat)).length + (encL (l.drop c.toNat)).length := by rw [happ, List.length_append]
        have m1 := measure_ok (rise_take l 0 c.toNat r1) (by omega)
        have m2 := measure_ok (rise_drop l 0 c.toNat (by omega) r1) (by omega)
        have e0 : (encodeL l).1 = encL l := by unfold encodeL; rw [if_pos c0]
        have e1 : (encodeL (l.take c.toNat)).1 = encL (l.take c.toNat) := by unfold encodeL; rw [m1, if_pos rfl]
        have e2 : (encodeL (l.drop c.toNat)).1 = encL (l.drop c.toNat) := by unfold encodeL; rw [m2, if_pos rfl]
        rw [if_pos c0, m1, m2, if_pos rfl, if_pos rfl, e0, e1, e2, strOfNums_size, strOfNums_size, if_pos (by omega)]
        have : (strOfNums (encL l)).toList = (strOfNums (encL (l.take c.toNat)) ++ strOfNums (encL (l.drop c.toNat))).toList := by
          rw [ByteArray.toList_eq, ByteArray.toList_eq, ByteArray.data_append, Array.toList_append, strOfNums_data, strOfNums_data, strOfNums_data, happ, List.map_append]
        rw [this]
        simp
      · rw [if_neg c0]
        by_cases c2 : (measureL l).2.2 = 2
        · have r1 := measure_two c2
          have m1 := measure_rise (rise_take l 0 c.toNat r1)
          have m2 := measure_rise (rise_drop l 0 c.toNat (by omega) r1)
          rw [if_pos c2, if_neg m1]
          simp [m2]
        · rw [if_neg c2]
  cases h with
  | true =>
    rw [if_pos rfl]
    exact hj true (.inl rfl)
  | false =>
    rw [if_neg (by decide)]
    by_cases c1 : c < 0
    · rw [if_pos c1]
      exact hj true (.inl rfl)
    · rw [if_neg c1]
      refine hj _ ?_
      by_cases c2 : (l.length : Int) < c
      · exact .inl (decide_eq_true c2)
      · exact .inr ⟨by omega, by omega⟩
end Go.Proofs.Yteejpfemaedmkaa.Pure
