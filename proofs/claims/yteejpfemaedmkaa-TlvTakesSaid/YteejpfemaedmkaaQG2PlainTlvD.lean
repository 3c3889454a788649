import Derived.Test.YteejpfemaedmkaaQG2X24
import Derived.Test.YteejpfemaedmkaaQG2X23
import Derived.Test.YteejpfemaedmkaaQG2PlainTlvE
namespace Go.Proofs.Yteejpfemaedmkaa.Plain
set_option linter.unusedSimpArgs false
set_option linter.unusedVariables false
open Go.RowKit Go.Proofs.Yteejpfemaedmkaa.X Go.Proofs.YteejpfemaedmkaaW.PrintWords Go.Proofs.YteejpfemaedmkaaW.PrintLast
theorem vtake_ok (l : List Int) (hr : ∀ b ∈ l, 0 ≤ b ∧ b < 256) (h : (vtake 0 0 l).2.2 = 0) : 0 ≤ (vtake 0 0 l).1 ∧ (vtake 0 0 l).1 < 18446744073709551616 ∧ 1 ≤ (vtake 0 0 l).2.1 ∧ (vtake 0 0 l).2.1 ≤ (l.length : Int) := by
  obtain ⟨n, _, n1, n2, n3, r, n4⟩ := vtake_inv l 0 0 (vtake 0 0 l).1 (vtake 0 0 l).2.1 hr (by omega) (by rw [← h])
  have hp := vput_pos n
  have hlen := congrArg List.length n4
  rw [List.length_append] at hlen
  have n1 : n < 18446744073709551616 := by simpa using n1
  have n2 : (vtake 0 0 l).1 = (n : Int) := by rw [n2]; simp
  rw [n2, n3]
  refine ⟨by omega, by omega, by omega, by omega⟩
/-- A value that is none answers false. -/
def valOf (k : Int) (p : List Int) (r : Int × Int × ByteArray × Bool) : Prop := match valueL k p with
  | some (n, s) => r = (k, n, s, true)
  | none => r.2.2.2 = false
theorem strOf_size (p : List Int) (h : p.length ≤ 140737488351232) : (strOfNums p).size ≤ 140737488351232 := by rw [strOfNums_size]; exact h
theorem value_is (q : Nat) (k : Int) (p : List Int) (hp : ∀ b ∈ p, 0 ≤ b ∧ b < 256) (hl : p.length ≤ 140737488351232) (hq : p.length + 100 < q) : ∃ r, tlv_value.f q k p = some r ∧ valOf k p r := by
  obtain ⟨q, rfl⟩ : ∃ m, q = m + 1 + 1 := ⟨q - 2, by omega⟩
  have ht := take_is (q + 1) p hp hl (by omega)
  have hempty : (⟨#[]⟩ : ByteArray).size ≤ 140737488351232 := by simp [ByteArray.size]
  have hv := fun (n : Int) => kind_valid q k n ⟨#[]⟩ hempty (by simp [ByteArray.size]; omega)
  have hv1 := fun (n : Int) => kind_valid (q + 1) k n ⟨#[]⟩ hempty (by simp [ByteArray.size]; omega)
  have hvs := fun (n : Int) => kind_valid (q + 1) k n (strOfNums p) (strOf_size p hl) (by rw [strOfNums_size]; omega)
  have hf : ∀ b, b = decide (k = 1 ∨ k = 2) → ∃ r, tlv_value.j0 (q + 1 + 1) k p k b k 0 (⟨#[]⟩ : ByteArray) = some r ∧ valOf k p r := by
    intro b hb
    simp only [tlv_value.j0]
    by_cases k12 : k = 1 ∨ k = 2
    · rw [if_pos (by rw [hb]; exact decide_eq_true k12), ht, Option.bind_some]
      simp only [tlv_value.j1, kind_Int.f, Option.bind_some]
      by_cases h0 : (vtake 0 0 p).2.2 = 0
      · rw [if_pos h0]
        obtain ⟨z0, z1, _, _⟩ := vtake_ok p hp h0
        by_cases h1 : (vtake 0 0 p).2.1 = (p.length : Int)
        · have hb2 : ((vtake 0 0 p).2.1 != (p.length : Int)) = false := by simp [h1]
          rw [hb2, if_neg (by decide)]
          by_cases k2 : k = 2
          · subst k2
            rw [if_pos rfl, zag_is _ z0 z1, Option.bind_some, hv, Option.bind_some, validV_num (.inr rfl)]
            refine ⟨_, rfl, ?_⟩
            unfold valOf valueL
            rw [if_pos (.inr rfl), if_pos ⟨h0, h1⟩, if_pos rfl]
          · rw [if_neg k2, hv, Option.bind_some, validV_num k12]
            refine ⟨_, rfl, ?_⟩
            unfold valOf valueL
            rw [if_pos k12, if_pos ⟨h0, h1⟩, if_neg k2]
        · have hb2 : ((vtake 0 0 p).2.1 != (p.length : Int)) = true := by simp [h1]
          rw [hb2, if_pos rfl]
          refine ⟨_, rfl, ?_⟩
          unfold valOf valueL
          rw [if_pos k12, if_neg (fun e => h1 e.2)]
      · rw [if_neg h0, if_pos trivial]
        refine ⟨_, rfl, ?_⟩
        unfold valOf valueL
        rw [if_pos k12, if_neg (fun e => h0 e.1)]
    · rw [if_neg (by rw [hb]; simpa using k12)]
      simp only [kind_Bool.f, Option.bind_some]
      by_cases k3 : k = 3
      · subst k3
        rw [if_pos rfl]
        by_cases h1 : (p.length : Int) = 1
        · rw [if_pos h1, if_pos (by omega)]
          obtain ⟨b, rfl⟩ : ∃ b, p = [b] := List.length_eq_one_iff.1 (by omega)
          have hb := hp b (List.mem_singleton.2 rfl)
          have hrd : rd [b] 0 = b := rfl
          rw [hrd, u64_small b (by omega) (by omega), hv1, Option.bind_some]
          refine ⟨_, rfl, ?_⟩
          unfold valOf valueL
          rw [if_neg (by omega), if_pos rfl]
          have hvb : validV 3 b ⟨#[]⟩ = decide (b ≤ 1) := by
            unfold validV
            rw [if_neg (by omega), if_pos rfl]
            simp [ByteArray.toList_eq]
          rw [hvb]
          by_cases hb1 : b ≤ 1
          · simp only [if_pos hb1, decide_eq_true hb1]
          · simp only [if_neg hb1, decide_eq_false hb1]
        · rw [if_neg h1]
          refine ⟨_, rfl, ?_⟩
          unfold valOf valueL
          rw [if_neg (by omega), if_pos rfl]
          rcases p with _ | ⟨b, _ | ⟨b2, p⟩⟩
          · rfl
          · simp at h1
          · rfl
      · rw [if_neg k3, hvs, Option.bind_some]
        refine ⟨_, rfl, ?_⟩
        unfold valOf valueL
        rw [if_neg k12, if_neg k3]
        cases hvv : validV k 0 (strOfNums p) with
        | true => rw [if_pos rfl]
        | false => rw [if_neg (by decide)]
  unfold tlv_value.f
  simp only [kind_Uint.f, kind_Int.f, Option.bind_some]
  by_cases k1 : k = 1
  · rw [if_pos k1]
    exact hf _ (by simp [k1])
  · rw [if_neg k1]
    refine hf _ ?_
    by_cases k2 : k = 2
    · simp [k2]
    · simp [k1, k2]
/-- A field that is none answers false. -/
def fieldOf (last : Int) (b : List Int) (r : Int × Int × Int × ByteArray × List Int × Bool) : Prop := match fieldL last b with
  | some (f, rest) => r = (f.f0, f.f1.f0, f.f1.f1, f.f1.f2, rest, true)
  | none => r.2.2.2.2.2 = false
theorem field_is (q : Nat) (last : Int) (b : List Int) (hb : ∀ x ∈ b, 0 ≤ x ∧ x < 256) (hl : b.length ≤ 140737488351232) (h0 : 0 ≤ last) (h1 : last ≤ 65535) (hq : b.length + 110 < q) : ∃ r, tlv_field.f q b last = some r ∧ fieldOf last b r := by
  obtain ⟨q, rfl⟩ : ∃ m, q = m + 1 := ⟨q - 1, by omega⟩
  have hj : ∀ c, ((vtake 0 0 b).2.2 = 0 ∨ c = true) → c = (!decide ((vtake 0 0 b).2.2 = 0 ∧ (vtake 0 0 b).1 / 8 ≤ 65535 ∧ last < (vtake 0 0 b).1 / 8)) → ∃ r, tlv_field.j0 (q + 1) b (vtake 0 0 b).1 (vtake 0 0 b).2.1 c = some r ∧ fieldOf last b r := by
    intro c hc0 hc
    simp only [tlv_field.j0]
    by_cases h : (vtake 0 0 b).2.2 = 0 ∧ (vtake 0 0 b).1 / 8 ≤ 65535 ∧ last < (vtake 0 0 b).1 / 8
    · have hcf : c = false := by rw [hc, decide_eq_true h]; rfl
      obtain ⟨a0, a1, a2, a3⟩ := vtake_ok b hb h.1
      rw [hcf, if_neg (by decide), if_pos (by omega), if_pos a3, Option.bind_some]
      have hb1 : ∀ x ∈ b.drop (vtake 0 0 b).2.1.toNat, 0 ≤ x ∧ x < 256 := fun x hx => hb x (List.mem_of_mem_drop hx)
      have hl1 : (b.drop (vtake 0 0 b).2.1.toNat).length ≤ b.length := by rw [List.length_drop]; omega
      rw [take_is q _ hb1 (by omega) (by omega), Option.bind_some]
      generalize hB : b.drop (vtake 0 0 b).2.1.toNat = b1 at hb1 hl1 ⊢
      by_cases h2 : (vtake 0 0 b1).2.2 = 0
      · obtain ⟨c0, c1, c2, c3⟩ := vtake_ok b1 hb1 h2
        rw [if_pos h2, w64_small _ (by omega) (by omega), u64_small _ (by omega) (by omega)]
        by_cases h3 : (vtake 0 0 b1).1 > (b1.length : Int) - (vtake 0 0 b1).2.1
        · rw [if_pos h3]
          refine ⟨_, rfl, ?_⟩
          unfold fieldOf fieldL
          simp only [hB]
          rw [if_pos h, if_neg (fun e => absurd e.2 (by omega))]
          trivial
        · have hl2 : (b1.drop (vtake 0 0 b1).2.1.toNat).length = b1.length - (vtake 0 0 b1).2.1.toNat := List.length_drop
          rw [if_neg h3, if_pos (by omega), if_pos c3, Option.bind_some, if_pos c0, if_pos (by omega), bits_and7 _ a0 a1, w64_small ((vtake 0 0 b).1 % 8) (by omega) (by omega), w64_small ((vtake 0 0 b).1 / 8) (by omega) (by omega)]
          have hb2 : ∀ x ∈ (b1.drop (vtake 0 0 b1).2.1.toNat).take (vtake 0 0 b1).1.toNat, 0 ≤ x ∧ x < 256 := fun x hx => hb1 x (List.mem_of_mem_drop (List.mem_of_mem_take hx))
          have hl3 : ((b1.drop (vtake 0 0 b1).2.1.toNat).take (vtake 0 0 b1).1.toNat).length ≤ b1.length := by rw [List.length_take]; omega
          obtain ⟨r, hr, hr2⟩ := value_is q ((vtake 0 0 b).1 % 8) _ hb2 (by omega) (by omega)
          rw [hr, Option.bind_some]
          refine ⟨_, rfl, ?_⟩
          unfold valOf at hr2
          unfold fieldOf fieldL
          simp only [hB]
          rw [if_pos h, if_pos ⟨h2, by omega⟩]
          cases hv : valueL ((vtake 0 0 b).1 % 8) ((b1.drop (vtake 0 0 b1).2.1.toNat).take (vtake 0 0 b1).1.toNat) with
          | none =>
            rw [hv] at hr2
            exact hr2
          | some ns =>
            obtain ⟨n, s⟩ := ns
            rw [hv] at hr2
            simp only at hr2 ⊢
            rw [hr2]
      · rw [if_neg h2]
        refine ⟨_, rfl, ?_⟩
        unfold fieldOf fieldL
        simp only [hB]
        rw [if_pos h, if_neg (fun e => h2 e.1)]
        trivial
    · have hct : c = true := by rw [hc, decide_eq_false h]; rfl
      rw [hct, if_pos rfl]
      refine ⟨_, rfl, ?_⟩
      unfold fieldOf fieldL
      simp only
      rw [if_neg h]
      trivial
  unfold tlv_field.f
  rw [take_is (q + 1) b hb hl (by omega), Option.bind_some]
  by_cases c0 : (vtake 0 0 b).2.2 = 0
  · obtain ⟨a0, a1, a2, a3⟩ := vtake_ok b hb c0
    rw [if_pos c0]
    by_cases c1 : (vtake 0 0 b).1 / 8 > 65535
    · rw [if_pos c1]
      exact hj true (.inr rfl) (by rw [decide_eq_false (fun e => absurd e.2.1 (by omega))]; rfl)
    · rw [if_neg c1, w64_small _ (by omega) (by omega)]
      refine hj _ (.inl c0) ?_
      by_cases c2 : (vtake 0 0 b).1 / 8 ≤ last
      · rw [decide_eq_true c2, decide_eq_false (fun e => absurd e.2.2 (by omega))]
        rfl
      · rw [decide_eq_false c2, decide_eq_true ⟨c0, by omega, by omega⟩]
        rfl
  · rw [if_neg c0]
    exact hj true (.inr rfl) (by rw [decide_eq_false (fun e => c0 e.1)]; rfl)
theorem decode_loop (m : Nat) : ∀ (q : Nat) (b : List Int) (last : Int) (acc : List S53), (∀ x ∈ b, 0 ≤ x ∧ x < 256) → 0 ≤ last → last ≤ 65535 → b.length ≤ m → acc.length + b.length ≤ 16777215 → 16777215 + 200 + m < q →
    tlv_Decode.l0 q b acc last = some (match decL m last b with | some l => (acc ++ l, 0) | none => ([], 3)) := by
  induction m with
  | zero =>
    intro q b last acc hb h0 h1 hm hl hq
    obtain ⟨q, rfl⟩ : ∃ m, q = m + 1 := ⟨q - 1, by omega⟩
    obtain rfl : b = [] := List.length_eq_zero_iff.1 (by omega)
    simp only [tlv_Decode.l0]
    rw [if_neg (by simp)]
    simp [decL]
  | succ m ih =>
    intro q b last acc hb h0 h1 hm hl hq
    obtain ⟨q, rfl⟩ : ∃ m, q = m + 1 := ⟨q - 1, by omega⟩
    simp only [tlv_Decode.l0]
    by_cases hnil : b = []
    · subst hnil
      rw [if_neg (by simp)]
      simp [decL]
    · have hpos : 0 < b.length := List.length_pos_iff.2 hnil
      rw [if_pos (by omega)]
      obtain ⟨r, hr, hr2⟩ := field_is q last b hb (by omega) h0 h1 (by omega)
      rw [hr, Option.bind_some]
      unfold fieldOf at hr2
      simp only [decL]
      rw [if_neg hnil]
      cases hf : fieldL last b with
      | none =>
        rw [hf] at hr2
        simp only at hr2 ⊢
        rw [hr2, if_neg (by decide)]
      | some fr =>
        obtain ⟨f, rest⟩ := fr
        rw [hf] at hr2
        simp only at hr2 ⊢
        subst hr2
        obtain ⟨f1, f2, f3, f4⟩ := fieldL_inv hb h0 (by omega) hf
        have hp := encF_pos f
        have hlen : b.length = (encF f).length + rest.length := by rw [f4, List.length_append]
        rw [if_pos rfl, if_pos (by omega)]
        have hrec : (⟨f.f0, ⟨f.f1.f0, f.f1.f1, f.f1.f2⟩⟩ : S53) = f := rfl
        have := f2.1
        have := f2.2.1
        rw [hrec, ih q rest f.f0 (acc ++ [f]) (fun x hx => hb x (by rw [f4]; exact List.mem_append_right _ hx)) (by omega) (by omega) (by omega) (by rw [List.length_append, List.length_singleton]; omega) (by omega)]
        cases decL m f.f0 rest with
        | none => rfl
        | some l =>
          simp only [Option.map_some, List.append_assoc]
          rfl
/-- The record and the code. -/
def decodeL (b : List Int) : List S53 × Int := if (b.length : Int) > 16777215 then ([], 2) else match decL b.length 0 b with | some l => (l, 0) | none => ([], 3)
theorem decode_is (q : Nat) (b : List Int) (hb : ∀ x ∈ b, 0 ≤ x ∧ x < 256) (hq : 40000000 < q) : tlv_Decode.f q b = some (decodeL b) := by
  unfold tlv_Decode.f decodeL
  by_cases h : (b.length : Int) > 16777215
  · rw [if_pos h, if_pos h]
  · rw [if_neg h, if_neg h, decode_loop b.length q b 0 [] hb (by omega) (by omega) (by omega) (by rw [List.length_nil]; omega) (by omega)]
    cases decL b.length 0 b with
    | none => rfl
    | some l => rfl
theorem decode_zero {b : List Int} (hb : ∀ x ∈ b, 0 ≤ x ∧ x < 256) (h : (decodeL b).2 = 0) : riseL 0 (decodeL b).1 ∧ (∀ f ∈ (decodeL b).1, smallF f) ∧ encL (decodeL b).1 = b ∧ b.length ≤ 16777215 := by
  unfold decodeL at h ⊢
  by_cases hl : (b.length : Int) > 16777215
  · rw [if_pos hl] at h; cases h
  · rw [if_neg hl] at h ⊢
    cases hd : decL b.length 0 b with
    | none => rw [hd] at h; cases h
    | some l =>
      obtain ⟨g1, g2, g3⟩ := decL_inv b.length 0 b l hb (by omega) (by omega) hd
      exact ⟨g1, g2, g3, by omega⟩
theorem decode_enc {l : List S53} (h : riseL 0 l) (hs : ∀ f ∈ l, smallF f) (hl : (encL l).length ≤ 16777215) : decodeL (encL l) = (l, 0) := by
  unfold decodeL
  rw [if_neg (by omega), decL_encL l _ 0 h hs (Nat.le_refl _)]
theorem decode_code (b : List Int) : ((b.length : Int) > 16777215 → decodeL b = ([], 2)) ∧ (¬ (b.length : Int) > 16777215 → (decodeL b).2 ≠ 0 → decodeL b = ([], 3)) := by
  unfold decodeL
  refine ⟨fun h => by rw [if_pos h], fun h h2 => ?_⟩
  rw [if_neg h] at h2 ⊢
  cases hd : decL b.length 0 b with
  | none => rfl
  | some l => rw [hd] at h2; exact absurd rfl h2
end Go.Proofs.Yteejpfemaedmkaa.Plain
