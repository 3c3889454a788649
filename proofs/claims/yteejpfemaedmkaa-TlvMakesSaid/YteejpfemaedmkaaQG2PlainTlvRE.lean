import Derived.Test.YteejpfemaedmkaaQG2X26
import Derived.Test.YteejpfemaedmkaaQG2X25
import Derived.Test.YteejpfemaedmkaaQG2PlainTlvE
import Derived.Test.YteejpfemaedmkaaQG2PlainTlvR
namespace Go.Proofs.Yteejpfemaedmkaa.Plain
set_option linter.unusedSimpArgs false
set_option linter.unusedVariables false
open Go.RowKit Go.Proofs.Yteejpfemaedmkaa.X Go.Proofs.YteejpfemaedmkaaW.PrintWords Go.Proofs.YteejpfemaedmkaaW.PrintLast
theorem number_is (n : Nat) : ∀ (k : Nat) (acc : List Int), n < 18446744073709551616 → (vput n).length ≤ k → acc.length + (vput n).length ≤ 140737488355328 → stratumref05_number.f k acc (n : Int) = some (acc ++ vput n) := by
  induction n using Nat.strongRecOn with
  | ind n ih =>
    intro k acc hn hk hc
    have hp := vput_pos n
    obtain ⟨k, rfl⟩ : ∃ m, k = m + 1 := ⟨k - 1, by omega⟩
    unfold stratumref05_number.f
    simp only [stratumref05_number.l0]
    by_cases h : n < 128
    · rw [if_neg (by omega), if_pos (by omega), vput_low n h, show (n : Int) % 256 = n by omega]
    · rw [vput_high n h, List.length_cons] at hk hc
      rw [if_pos (by omega), if_pos (by omega), tmod_nat, tdiv_nat, u64_small _ (by omega) (by omega), u64_small _ (by omega) (by omega), show (128 + ((n % 128 : Nat) : Int)) % 256 = ((128 + n % 128 : Nat) : Int) by omega]
      have := ih (n / 128) (by omega) k (acc ++ [((128 + n % 128 : Nat) : Int)]) (by omega) (by omega) (by rw [List.length_append, List.length_singleton]; omega)
      unfold stratumref05_number.f at this
      rw [this, vput_high n h, List.append_assoc]
      rfl
theorem ref_bytes_loop (l : List S53) (s : ByteArray) (hs : s.size ≤ 16777215) (i : Nat) (a b : Int) (r : List Int × Int) (d : Nat) : ∀ (k j : Nat) (acc : List Int) (M : Nat), j ≤ s.size → s.size - j = d → M + d + 1 < k → acc.length + (s.size - j) ≤ 16777215 →
    (∀ k', M < k' → stratumref05_Encode.l0 k' l (acc ++ (bytesOf s).drop j) (wrap64 ((i : Int) + 1)) = some r) → stratumref05_Encode.l1 k l acc (i : Int) (j : Int) a b s = some r := by
  induction d with
  | zero =>
    intro k j acc M h1 h2 h3 h4 h5
    obtain ⟨k, rfl⟩ : ∃ m, k = m + 1 := ⟨k - 1, by omega⟩
    simp only [stratumref05_Encode.l1]
    have h6 := h5 k (by omega)
    rw [List.drop_eq_nil_of_le (by rw [bytesOf_length]; omega), List.append_nil] at h6
    rw [if_neg (by omega), h6]
  | succ d ih =>
    intro k j acc M h1 h2 h3 h4 h5
    obtain ⟨k, rfl⟩ : ∃ m, k = m + 1 := ⟨k - 1, by omega⟩
    have hj : j < (bytesOf s).length := by rw [bytesOf_length]; omega
    simp only [stratumref05_Encode.l1]
    have e : bt s (j : Int) = (bytesOf s)[j] := by
      rw [← rd_bytesOf]
      unfold rd
      rw [Int.toNat_natCast, List.getD_eq_getElem?_getD, List.getElem?_eq_getElem hj, Option.getD_some]
    rw [if_pos (by omega), if_pos (by omega), if_pos (by omega), w64_succ' j (by omega), e]
    refine ih k (j + 1) _ M (by omega) (by omega) (by omega) (by rw [List.length_append, List.length_singleton]; omega) (fun k' hk' => ?_)
    rw [List.append_assoc, List.singleton_append, ← List.drop_eq_getElem_cons hj]
    exact h5 k' hk'
theorem ref_encode_loop (l : List S53) (hs : ∀ f ∈ l, smallF f) (ho : ∀ f ∈ l, okF f) (hl : l.length ≤ 140737488351232) (d : Nat) : ∀ (k i : Nat) (acc : List Int), i ≤ l.length → l.length - i = d → (encL (l.drop i)).length + 3 * d + 20 < k → acc.length + (encL (l.drop i)).length ≤ 16777215 →
    stratumref05_Encode.l0 k l acc (i : Int) = some (acc ++ encL (l.drop i), 0) := by
  induction d with
  | zero =>
    intro k i acc h1 h2 h3 h4
    obtain ⟨k, rfl⟩ : ∃ m, k = m + 1 := ⟨k - 1, by omega⟩
    simp only [stratumref05_Encode.l0]
    rw [if_neg (by omega), List.drop_eq_nil_of_le (by omega)]
    simp only [encL, List.append_nil]
  | succ d ih =>
    intro k i acc h1 h2 h3 h4
    obtain ⟨k, rfl⟩ : ∃ m, k = m + 1 := ⟨k - 1, by omega⟩
    have hi : i < l.length := by omega
    have g := hs _ (List.getElem_mem hi)
    have o := ho _ (List.getElem_mem hi)
    obtain ⟨k1, k2⟩ := key_hi o
    have hp : (payF l[i]).length ≤ 140737488351232 := payL_length _ _ _ g.1 g.2.1 g.2.2
    have v1 := vput_ten (keyN l[i]) (by omega)
    have v2 := vput_ten (payF l[i]).length (by omega)
    rw [List.drop_eq_getElem_cons hi] at h3 h4 ⊢
    simp only [encL] at h3 h4 ⊢
    have hle : (encF l[i]).length = (vput (keyN l[i])).length + ((vput (payF l[i]).length).length + (payF l[i]).length) := by simp only [encF, List.length_append]
    rw [List.length_append] at h3 h4
    have hpay : stratumref05_payload.f k l[i].f1.f0 l[i].f1.f1 l[i].f1.f2 = some ((payF l[i]).length : Int) := ref_payload_is k _ _ _ g.1 g.2.1 (by omega)
    have hgo : ∀ k', (encL (l.drop (i + 1))).length + 3 * d + 20 < k' → stratumref05_Encode.l0 k' l (acc ++ vput (keyN l[i]) ++ vput (payF l[i]).length ++ payF l[i]) (wrap64 ((i : Int) + 1)) = some (acc ++ (encF l[i] ++ encL (l.drop (i + 1))), 0) := by
      intro k' hk'
      rw [w64_succ' i (by omega), ih k' (i + 1) _ (by omega) (by omega) hk' (by simp only [List.length_append]; omega)]
      simp only [encF, List.append_assoc]
    have hlo := g.1
    have hhi := g.2.1
    simp only [stratumref05_Encode.l0]
    rw [if_pos (by omega), if_pos (by omega), rd_field l i hi, ref_key_is _ o, Option.bind_some, number_is _ k acc (by omega) (by omega) (by omega), Option.bind_some, hpay, Option.bind_some, u64_small _ (by omega) (by omega), number_is _ k _ (by omega) (by omega) (by rw [List.length_append]; omega), Option.bind_some]
    by_cases c1 : l[i].f1.f0 = 1
    · rw [if_pos c1]
      obtain ⟨m, hm⟩ := Int.eq_ofNat_of_zero_le hlo
      have e : payF l[i] = vput m := by unfold payF payL; rw [if_pos c1, hm, Int.toNat_natCast]
      have v3 := vput_ten m (by omega)
      rw [hm, number_is m k _ (by omega) (by omega) (by rw [List.length_append, List.length_append]; omega), Option.bind_some, ← e]
      exact hgo k (by omega)
    rw [if_neg c1]
    by_cases c2 : l[i].f1.f0 = 2
    · rw [if_pos c2, ref_zig_is _ (w64_lo _) (w64_hi _), Option.bind_some]
      have z0 := zig_lo (wrap64 l[i].f1.f1)
      have z1 := zig_hi (wrap64 l[i].f1.f1) (w64_lo _) (w64_hi _)
      obtain ⟨m, hm⟩ := Int.eq_ofNat_of_zero_le z0
      have e : payF l[i] = vput m := by unfold payF payL; rw [if_neg c1, if_pos c2, hm, Int.toNat_natCast]
      have v3 := vput_ten m (by omega)
      rw [hm, number_is m k _ (by omega) (by omega) (by rw [List.length_append, List.length_append]; omega), Option.bind_some, ← e]
      exact hgo k (by omega)
    rw [if_neg c2]
    by_cases c3 : l[i].f1.f0 = 3
    · have e : payF l[i] = [l[i].f1.f1 % 256] := by unfold payF payL; rw [if_neg c1, if_neg c2, if_pos c3]
      rw [if_pos c3, if_pos (by rw [List.length_append, List.length_append]; omega), ← e]
      exact hgo k (by omega)
    · have e : payF l[i] = bytesOf l[i].f1.f2 := by unfold payF payL; rw [if_neg c1, if_neg c2, if_neg c3]
      have e2 : (payF l[i]).length = l[i].f1.f2.size := by rw [e, bytesOf_length]
      rw [if_neg c3]
      refine ref_bytes_loop l _ (by omega) i _ _ _ l[i].f1.f2.size k 0 _ ((encL (l.drop (i + 1))).length + 3 * d + 20) (by omega) (by omega) (by omega) (by rw [List.length_append, List.length_append]; omega) (fun k' hk' => ?_)
      rw [List.drop_zero, ← e]
      exact hgo k' hk'
theorem ref_encode_is (k : Nat) (l : List S53) (hs : ∀ f ∈ l, smallF f) (hl : l.length ≤ 140737488351232) (hk : 140737488351300 + 50000000 + 3 * l.length < k) : stratumref05_Encode.f k l = some (encodeL l) := by
  unfold stratumref05_Encode.f encodeL
  rw [ref_check_is k l hs hl (by omega), Option.bind_some]
  by_cases h : (measureL l).2.2 = 0
  · obtain ⟨h1, h2, h3⟩ := measure_zero h
    rw [if_pos h, if_pos h]
    have := ref_encode_loop l hs (rise_ok l 0 h1) hl l.length k 0 [] (by omega) (by omega) (by rw [List.drop_zero]; omega) (by rw [List.drop_zero, List.length_nil]; omega)
    rw [List.drop_zero, List.nil_append] at this
    exact this
  · rw [if_neg h, if_neg h]
theorem ref_size_code (k : Nat) (l : List S53) (hs : ∀ f ∈ l, smallF f) (hl : l.length ≤ 140737488351232) (hk : 140737488351300 + 2 * l.length < k) : stratumref05_Size.f k l = some ((measureL l).1, (measureL l).2.2) := by
  unfold stratumref05_Size.f
  rw [ref_check_is k l hs hl hk, Option.bind_some]
  by_cases h : (measureL l).2.2 = 0
  · obtain ⟨h1, h2, h3⟩ := measure_zero h
    rw [if_pos h, ref_length_is k l hs (rise_ok l 0 h1) hl (by omega), Option.bind_some, if_neg (by omega), h3, h]
  · rw [if_neg h]
    have : (measureL l).1 = 0 := by
      unfold measureL at h ⊢
      cases hb : badAt 0 0 l with
      | some j => rfl
      | none =>
        rw [hb] at h
        simp only at h ⊢
        by_cases hc : ((encL l).length : Int) > 16777215
        · rw [if_pos hc]
        · rw [if_neg hc] at h
          exact absurd rfl h
    rw [this]
end Go.Proofs.Yteejpfemaedmkaa.Plain
