/- TlvTurned: bytes that are another row than a record's are never taken for the same record. -/
import Derived.Test.YteejpfemaedmkaaQG1STlvTurned
import Derived.Test.YteejpfemaedmkaaQG1PlainTlvS
namespace Go.Proofs.Yteejpfemaedmkaa.Pure
set_option linter.unusedSimpArgs false
set_option linter.unusedVariables false
open Go.RowKit Go.Proofs.Yteejpfemaedmkaa.X Go.Proofs.YteejpfemaedmkaaW.PrintWords Go.Proofs.YteejpfemaedmkaaW.PrintLast Go.Proofs.Yteejpfemaedmkaa.Plain
theorem fit_len (p n a m : Nat) (h1 : p ≤ a + 2) (h2 : n ≤ 16777215) (h3 : a < n) (h4 : m = n - (a + 1)) : p + m < 140737488355328 := by omega
theorem u8_range (x : Int) : 0 ≤ IntKind.u8.wrap x ∧ IntKind.u8.wrap x < 256 := by
  simp [IntKind.wrap, IntKind.bits, IntKind.signed]
  omega
theorem xor_range (a b : Int) : 0 ≤ Go.bits .xor .u8 a b ∧ Go.bits .xor .u8 a b < 256 := u8_range _
theorem turned_loop (l : List S53) (hs : ∀ f ∈ l, smallF f) (h0 : (measureL l).2.2 = 0) (a : Nat) (ha : a < (encL l).length) (x : Int) (hx : 0 ≤ x ∧ x < 256) (d : Nat) : ∀ (k i : Nat), i ≤ 3 → 3 - i = d → 40000100 + 2 * d < k →
    stratumlaw05_TlvTurned.l0 k l (a : Int) x (encL l) (i : Int) = some true := by
  obtain ⟨r1, r2, r3⟩ := measure_zero h0
  have hr := encL_range l
  induction d with
  | zero =>
    intro k i h1 h2 h3
    obtain ⟨k, rfl⟩ : ∃ m, k = m + 1 := ⟨k - 1, by omega⟩
    simp only [stratumlaw05_TlvTurned.l0]
    rw [if_neg (by omega)]
  | succ d ih =>
    intro k i h1 h2 h3
    obtain ⟨k, rfl⟩ : ∃ m, k = m + 1 + 1 := ⟨k - 2, by omega⟩
    have hnext := ih k (i + 1) (by omega) (by omega) (by omega)
    have hj : ∀ pre : List Int, (∀ b ∈ pre, 0 ≤ b ∧ b < 256) → pre.length ≤ a + 2 → stratumlaw05_TlvTurned.j2 (k + 1) l (a : Int) x (encL l) (i : Int) pre = some true := by
      intro pre hp hl
      simp only [stratumlaw05_TlvTurned.j2]
      have e1 : wrap64 ((a : Int) + 1) = ((a + 1 : Nat) : Int) := w64_succ' a (by omega)
      have hdl : ((encL l).drop (a + 1)).length = (encL l).length - (a + 1) := List.length_drop
      have hc : ∀ b ∈ pre ++ (encL l).drop (a + 1), 0 ≤ b ∧ b < 256 := by
        intro b hb
        rcases List.mem_append.1 hb with hb | hb
        · exact hp b hb
        · exact hr b (List.mem_of_mem_drop hb)
      rw [e1, if_pos (Int.natCast_nonneg _), if_pos (Int.ofNat_le.2 ha), Int.toNat_natCast, Option.bind_some, if_pos (fit_len _ _ a _ hl r2 ha hdl), Option.bind_some, decode_is k _ hc (by omega), Option.bind_some, w64_succ' i (by omega)]
      by_cases c0 : (decodeL (pre ++ (encL l).drop (a + 1))).2 = 0
      · obtain ⟨d1, d2, d3, d4⟩ := decode_zero hc c0
        have hfit : (decodeL (pre ++ (encL l).drop (a + 1))).1.length ≤ 16777215 := by
          have := enc_fits (l := (decodeL (pre ++ (encL l).drop (a + 1))).1)
          rw [d3] at this
          omega
        obtain ⟨r, q1, q2⟩ := same_field_is k (decodeL (pre ++ (encL l).drop (a + 1))).1 l (by omega) (by omega)
        rw [if_pos c0, q1, Option.bind_some]
        cases r with
        | true =>
          have heq := q2.1 rfl
          rw [heq] at d3
          rw [if_pos rfl, alike_is _ _ hc hr, Option.bind_some, ← d3, decide_eq_true rfl, if_pos rfl]
          exact hnext
        | false =>
          rw [if_neg (by decide)]
          exact hnext
      · rw [if_neg c0]
        exact hnext
    have hrd : rd (encL l) (a : Int) = (encL l)[a] := by
      unfold rd
      rw [Int.toNat_natCast, List.getD_eq_getElem?_getD, List.getElem?_eq_getElem ha, Option.getD_some]
    have hra := hr _ (List.getElem_mem ha)
    have htl : ((encL l).take a).length = a := by rw [List.length_take]; omega
    have hta : ∀ b ∈ (encL l).take a, 0 ≤ b ∧ b < 256 := fun b hb => hr b (List.mem_of_mem_take hb)
    simp only [stratumlaw05_TlvTurned.l0]
    rw [if_pos (by omega), if_pos (by omega), if_pos (by omega), Int.toNat_natCast, Option.bind_some, if_pos (by rw [htl, List.length_nil]; omega), Option.bind_some, List.nil_append, hrd]
    by_cases c1 : (i : Int) = 0
    · rw [if_pos c1, if_pos (by omega), if_pos (by omega)]
      refine hj _ (fun b hb => ?_) (by rw [List.length_append, List.length_singleton]; omega)
      rcases List.mem_append.1 hb with hb | hb
      · exact hta b hb
      · rw [List.mem_singleton.1 hb]
        exact xor_range _ _
    · rw [if_neg c1]
      by_cases c2 : (i : Int) = 1
      · rw [if_pos c2, if_pos (by omega), Option.bind_some, if_pos (by rw [htl]; simp; omega)]
        refine hj _ (fun b hb => ?_) (by rw [List.length_append]; simp; omega)
        rcases List.mem_append.1 hb with hb | hb
        · exact hta b hb
        · rcases List.mem_cons.1 hb with rfl | hb
          · exact hx
          · rw [List.mem_singleton.1 hb]
            exact hra
      · rw [if_neg c2]
        exact hj _ hta (by omega)
theorem TlvTurned : stratumlaw05_TlvTurned.PureX := by
  intro l a x hl ha hx
  have hs : ∀ f ∈ l, smallF f := fun f hf => smallF_of (hl.2 f hf)
  have h1 : l.length ≤ 140737488351232 := by have h1 := hl.1; omega
  have hx : 0 ≤ x ∧ x < 256 := by
    rw [Lit.wf, Bool.and_eq_true, decide_eq_true_eq, decide_eq_true_eq] at hx
    simp [IntKind.min, IntKind.max, IntKind.signed, IntKind.bits] at hx
    omega
  obtain ⟨q, hq⟩ : ∃ q, q = 140737488351300 + 3 * l.length + 50000000 := ⟨_, rfl⟩
  refine ⟨q + 1, ?_⟩
  simp only [stratumlaw05_TlvTurned.f]
  obtain ⟨h, hh⟩ := heavy_is (q + 1) l h1 (by omega)
  rw [lives_is _ (by omega), Option.bind_some, if_pos rfl, hh, Option.bind_some]
  cases h with
  | true => rw [if_pos rfl]
  | false =>
    rw [if_neg (by decide), encode_is _ l hs h1 (by omega), Option.bind_some]
    have ht : ∀ c, stratumlaw05_TlvTurned.j0 (q + 1) l a x c true = some true := by
      intro c
      simp only [stratumlaw05_TlvTurned.j0]
      rw [if_pos trivial]
    by_cases h0 : (measureL l).2.2 = 0
    · have he : encodeL l = (encL l, 0) := by unfold encodeL; rw [if_pos h0]
      rw [he, if_pos rfl]
      by_cases c1 : a < 0
      · rw [if_pos c1]
        exact ht _
      · rw [if_neg c1]
        by_cases c2 : ((encL l).length : Int) ≤ a
        · rw [decide_eq_true c2]
          exact ht _
        · rw [decide_eq_false c2]
          simp only [stratumlaw05_TlvTurned.j0]
          rw [if_neg (by decide)]
          obtain ⟨n, rfl⟩ := Int.eq_ofNat_of_zero_le (show 0 ≤ a by omega)
          exact turned_loop l hs h0 n (by omega) x hx 3 q 0 (by omega) (by omega) (by omega)
    · have he : encodeL l = ([], (measureL l).2.2) := by unfold encodeL; rw [if_neg h0]
      rw [he, if_neg h0]
      exact ht _
end Go.Proofs.Yteejpfemaedmkaa.Pure
