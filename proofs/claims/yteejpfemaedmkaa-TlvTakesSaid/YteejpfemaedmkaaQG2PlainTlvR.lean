import Derived.Test.YteejpfemaedmkaaQG2X16
import Derived.Test.YteejpfemaedmkaaQG2X15
import Derived.Test.YteejpfemaedmkaaQG2PlainTlv
import Derived.Test.YteejpfemaedmkaaQG2PlainValidRef
namespace Go.Proofs.Yteejpfemaedmkaa.Plain
set_option linter.unusedSimpArgs false
set_option linter.unusedVariables false
open Go.RowKit Go.Proofs.Yteejpfemaedmkaa.X Go.Proofs.YteejpfemaedmkaaW.PrintWords Go.Proofs.YteejpfemaedmkaaW.PrintLast
theorem tdiv_nat (n : Nat) : Int.tdiv (n : Int) 128 = ((n / 128 : Nat) : Int) := by
  rw [Int.tdiv_eq_ediv_of_nonneg (by omega)]
  omega
theorem tmod_nat (n : Nat) : Int.tmod (n : Int) 128 = ((n % 128 : Nat) : Int) := by
  rw [Int.tmod_eq_emod_of_nonneg (by omega)]
  omega
theorem ref_size_loop (n : Nat) : ∀ (k c : Nat), n < 18446744073709551616 → (vput n).length ≤ k → c + (vput n).length ≤ 1000 → stratumref02_Size.l0 k (n : Int) (c : Int) = some ((c + (vput n).length - 1 : Nat) : Int) := by
  induction n using Nat.strongRecOn with
  | ind n ih =>
    intro k c hn hk hc
    have hp := vput_pos n
    obtain ⟨k, rfl⟩ : ∃ m, k = m + 1 := ⟨k - 1, by omega⟩
    simp only [stratumref02_Size.l0]
    by_cases h : n < 128
    · rw [if_neg (by omega), vput_low n h]
      rfl
    · rw [vput_high n h, List.length_cons] at hk hc ⊢
      rw [if_pos (by omega), w64_small _ (by omega) (by omega), tdiv_nat, u64_small _ (by omega) (by omega), show (c : Int) + 1 = ((c + 1 : Nat) : Int) by omega, ih (n / 128) (by omega) k (c + 1) (by omega) (by omega) (by omega)]
      congr 2
      omega
theorem ref_size_is (k n : Nat) (hn : n < 18446744073709551616) (hk : 10 ≤ k) : stratumref02_Size.f k (n : Int) = some ((vput n).length : Int) := by
  have := vput_ten n hn
  unfold stratumref02_Size.f
  have h := ref_size_loop n k 1 hn (by omega) (by omega)
  rw [show (1 + (vput n).length - 1) = (vput n).length by omega] at h
  exact h
theorem ref_zig_is (x : Int) (h0 : -9223372036854775808 ≤ x) (h : x < 9223372036854775808) : stratumref02_Zig.f x = some (zig x) := by
  unfold stratumref02_Zig.f zig
  by_cases hx : 0 ≤ x
  · rw [if_pos hx, if_pos hx, u64_small x (by omega) (by omega), u64_small _ (by omega) (by omega)]
  · rw [if_neg hx, if_neg hx, w64_small (x + 1) (by omega) (by omega), w64_small _ (by omega) (by omega), u64_small (-(x + 1)) (by omega) (by omega), u64_small (2 * _) (by omega) (by omega), u64_small _ (by omega) (by omega)]
    congr 1
    omega
theorem ref_key_is (f : S53) (h : okF f) : stratumref05_key.f f.f0 f.f1.f0 f.f1.f1 f.f1.f2 = some ((keyN f : Nat) : Int) := by
  obtain ⟨k1, k2⟩ := key_hi h
  have hk := validV_kind h.2.2
  have h1 := h.1
  have h2 := h.2.1
  unfold stratumref05_key.f
  rw [u64_small f.f0 (by omega) (by omega), u64_small (8 * f.f0) (by omega) (by omega), u64_small f.f1.f0 (by omega) (by omega), u64_small _ (by omega) (by omega), k1]
theorem ref_payload_is (q : Nat) (k n : Int) (s : ByteArray) (h0 : 0 ≤ n) (h1 : n < 18446744073709551616) (hq : 10 ≤ q) : stratumref05_payload.f q k n s = some ((payL k n s).length : Int) := by
  unfold stratumref05_payload.f payL
  by_cases k1 : k = 1
  · rw [if_pos k1, if_pos k1]
    obtain ⟨m, rfl⟩ := Int.eq_ofNat_of_zero_le h0
    rw [ref_size_is q m (by omega) hq, Option.bind_some, Int.toNat_natCast]
  · rw [if_neg k1, if_neg k1]
    by_cases k2 : k = 2
    · rw [if_pos k2, if_pos k2, ref_zig_is _ (w64_lo n) (w64_hi n), Option.bind_some]
      have z0 := zig_lo (wrap64 n)
      have z1 := zig_hi (wrap64 n) (w64_lo n) (w64_hi n)
      obtain ⟨m, hm⟩ := Int.eq_ofNat_of_zero_le z0
      rw [hm, ref_size_is q m (by omega) hq, Option.bind_some, Int.toNat_natCast]
    · rw [if_neg k2, if_neg k2]
      by_cases k3 : k = 3
      · rw [if_pos k3, if_pos k3]
        rfl
      · rw [if_neg k3, if_neg k3, bytesOf_length]
theorem ref_length_loop (l : List S53) (hs : ∀ f ∈ l, smallF f) (ho : ∀ f ∈ l, okF f) (hl : l.length ≤ 140737488351232) (d : Nat) : ∀ (k i s : Nat), i ≤ l.length → l.length - i = d → d + 20 < k → s ≤ 16777215 →
    stratumref05_length.l0 k l (s : Int) (i : Int) = some (if ((s + (encL (l.drop i)).length : Nat) : Int) > 16777215 then 16777216 else ((s + (encL (l.drop i)).length : Nat) : Int)) := by
  induction d with
  | zero =>
    intro k i s h1 h2 h3 h4
    obtain ⟨k, rfl⟩ : ∃ m, k = m + 1 := ⟨k - 1, by omega⟩
    simp only [stratumref05_length.l0]
    have e : s + (encL ([] : List S53)).length = s := by simp [encL]
    rw [if_neg (by omega), List.drop_eq_nil_of_le (by omega), e, if_neg (by omega)]
  | succ d ih =>
    intro k i s h1 h2 h3 h4
    obtain ⟨k, rfl⟩ : ∃ m, k = m + 1 := ⟨k - 1, by omega⟩
    have hi : i < l.length := by omega
    have g := hs _ (List.getElem_mem hi)
    have o := ho _ (List.getElem_mem hi)
    obtain ⟨k1, k2⟩ := key_hi o
    have hp : (payF l[i]).length ≤ 140737488351232 := payL_length _ _ _ g.1 g.2.1 g.2.2
    have v1 := vput_ten (keyN l[i]) (by omega)
    have v2 := vput_ten (payF l[i]).length (by omega)
    have hle : (encF l[i]).length = (vput (keyN l[i])).length + ((vput (payF l[i]).length).length + (payF l[i]).length) := by simp only [encF, List.length_append]
    have hpay : stratumref05_payload.f k l[i].f1.f0 l[i].f1.f1 l[i].f1.f2 = some ((payF l[i]).length : Int) := ref_payload_is k _ _ _ g.1 g.2.1 (by omega)
    simp only [stratumref05_length.l0]
    rw [if_pos (by omega), if_pos (by omega), rd_field l i hi, hpay, Option.bind_some, ref_key_is _ o, Option.bind_some, ref_size_is k _ (by omega) (by omega), Option.bind_some, u64_small _ (by omega) (by omega), ref_size_is k _ (by omega) (by omega), Option.bind_some,
      w64_small ((s : Int) + _) (by omega) (by omega), w64_small ((s : Int) + _ + _) (by omega) (by omega), w64_small _ (by omega) (by omega), w64_succ' i (by omega), List.drop_eq_getElem_cons hi]
    have e1 : (s : Int) + ((vput (keyN l[i])).length : Int) + ((vput (payF l[i]).length).length : Int) + ((payF l[i]).length : Int) = ((s + (encF l[i]).length : Nat) : Int) := by omega
    have e2 : s + (encL (l[i] :: l.drop (i + 1))).length = s + (encF l[i]).length + (encL (l.drop (i + 1))).length := by
      simp only [encL, List.length_append]
      omega
    rw [e1, e2]
    by_cases hb : ((s + (encF l[i]).length : Nat) : Int) > 16777215
    · rw [if_pos hb, if_pos (by omega)]
    · rw [if_neg hb, ih k (i + 1) (s + (encF l[i]).length) (by omega) (by omega) (by omega) (by omega)]
theorem ref_length_is (k : Nat) (l : List S53) (hs : ∀ f ∈ l, smallF f) (ho : ∀ f ∈ l, okF f) (hl : l.length ≤ 140737488351232) (hk : l.length + 20 < k) :
    stratumref05_length.f k l = some (if ((encL l).length : Int) > 16777215 then 16777216 else ((encL l).length : Int)) := by
  have h := ref_length_loop l hs ho hl l.length k 0 0 (by omega) (by omega) hk (by omega)
  rw [List.drop_zero, Nat.zero_add] at h
  exact h
theorem ref_check_loop (l : List S53) (hs : ∀ f ∈ l, smallF f) (hl : l.length ≤ 140737488351232) (d : Nat) : ∀ (k i : Nat) (last : Int), i ≤ l.length → l.length - i = d → 140737488351300 + l.length + d < k →
    (i = 0 ∧ last = 0 ∨ 0 < i ∧ (rd_T53 l ((i : Int) - 1)).f0 = last) → 0 ≤ last → (∀ f ∈ l.take i, okF f) →
    stratumref05_Check.l0 k l (i : Int) = some (match badAt i last (l.drop i) with
      | some j => (j, 1)
      | none => if ((encL l).length : Int) > 16777215 then (0, 2) else (0, 0)) := by
  induction d with
  | zero =>
    intro k i last h1 h2 h3 h4 h5 h6
    obtain ⟨k, rfl⟩ : ∃ m, k = m + 1 := ⟨k - 1, by omega⟩
    rw [List.take_of_length_le (by omega)] at h6
    simp only [stratumref05_Check.l0]
    rw [if_neg (by omega), List.drop_eq_nil_of_le (by omega), ref_length_is k l hs h6 hl (by omega), Option.bind_some]
    simp only [badAt]
    by_cases hb : ((encL l).length : Int) > 16777215
    · rw [if_pos hb, if_pos hb, if_pos (by omega)]
    · rw [if_neg hb, if_neg hb, if_neg hb]
  | succ d ih =>
    intro k i last h1 h2 h3 h4 h5 h6
    obtain ⟨k, rfl⟩ : ∃ m, k = m + 1 := ⟨k - 1, by omega⟩
    have hi : i < l.length := by omega
    obtain ⟨g0, g1, g2⟩ := hs _ (List.getElem_mem hi)
    have hv : stratumref04_Valid.f k l[i].f1.f0 l[i].f1.f1 l[i].f1.f2 = some (validV l[i].f1.f0 l[i].f1.f1 l[i].f1.f2) := ref_valid _ _ _ _ g2 (by omega)
    have hbad : okB last l[i] = false → (some ((i : Int), (1 : Int)) : Option (Int × Int)) = some (match badAt i last (l.drop i) with
      | some j => (j, 1)
      | none => if ((encL l).length : Int) > 16777215 then (0, 2) else (0, 0)) := by
      intro ho
      rw [List.drop_eq_getElem_cons hi]
      unfold badAt
      rw [ho, if_neg (by decide)]
    have hgood : 1 ≤ l[i].f0 → l[i].f0 ≤ 65535 → last < l[i].f0 → (if validV l[i].f1.f0 l[i].f1.f1 l[i].f1.f2 = true then stratumref05_Check.l0 k l (wrap64 ((i : Int) + 1)) else some ((i : Int), 1)) = some (match badAt i last (l.drop i) with
      | some j => (j, 1)
      | none => if ((encL l).length : Int) > 16777215 then (0, 2) else (0, 0)) := by
      intro c1 c2 c3
      cases hvv : validV l[i].f1.f0 l[i].f1.f1 l[i].f1.f2 with
      | false =>
        rw [if_neg (by decide)]
        refine hbad ?_
        simp only [okB, hvv, Bool.and_false]
      | true =>
        have ho : okB last l[i] = true := (okB_iff last _).2 ⟨c3, c1, c2, hvv⟩
        rw [if_pos rfl, w64_succ' i (by omega), ih k (i + 1) l[i].f0 (by omega) (by omega) (by omega) (.inr ⟨by omega, by rw [show ((i + 1 : Nat) : Int) - 1 = (i : Int) by omega, rd_field l i hi]⟩) (by omega) ?_]
        · rw [List.drop_eq_getElem_cons hi]
          conv => rhs; unfold badAt
          rw [ho, if_pos rfl]
          rfl
        · intro f hf
          rw [List.take_succ_eq_append_getElem hi] at hf
          rcases List.mem_append.1 hf with hf | hf
          · exact h6 f hf
          · rw [List.mem_singleton.1 hf]
            exact ⟨c1, c2, hvv⟩
    simp only [stratumref05_Check.l0]
    rw [if_pos (by omega), if_pos (by omega), rd_field l i hi]
    by_cases c1 : l[i].f0 < 1
    · rw [if_pos c1]
      refine hbad ?_
      simp only [okB]
      rw [decide_eq_false (show ¬ 1 ≤ l[i].f0 by omega)]
      rfl
    rw [if_neg c1]
    by_cases c2 : l[i].f0 > 65535
    · rw [if_pos c2]
      refine hbad ?_
      simp only [okB]
      rw [decide_eq_false (show ¬ l[i].f0 ≤ 65535 by omega), Bool.false_and, Bool.and_false]
    rw [if_neg c2]
    by_cases c3 : (i : Int) > 0
    · have h4 : (rd_T53 l ((i : Int) - 1)).f0 = last := by omega
      rw [if_pos c3, w64_small ((i : Int) - 1) (by omega) (by omega), if_pos (by omega), if_pos (by omega), h4]
      by_cases c4 : l[i].f0 ≤ last
      · rw [if_pos c4]
        refine hbad ?_
        simp only [okB]
        rw [decide_eq_false (show ¬ last < l[i].f0 by omega), Bool.false_and, Bool.and_false, Bool.and_false]
      · rw [if_neg c4, hv, Option.bind_some]
        exact hgood (by omega) (by omega) (by omega)
    · have h4 : last = 0 := by omega
      rw [if_neg c3, hv, Option.bind_some]
      exact hgood (by omega) (by omega) (by omega)
theorem ref_check_is (k : Nat) (l : List S53) (hs : ∀ f ∈ l, smallF f) (hl : l.length ≤ 140737488351232) (hk : 140737488351300 + 2 * l.length < k) : stratumref05_Check.f k l = some ((measureL l).2.1, (measureL l).2.2) := by
  have h := ref_check_loop l hs hl l.length k 0 0 (by omega) (by omega) (by omega) (.inl ⟨rfl, rfl⟩) (by omega) (by simp)
  rw [List.drop_zero, show ((0 : Nat) : Int) = 0 from rfl] at h
  refine h.trans ?_
  unfold measureL
  cases badAt 0 0 l with
  | some j => rfl
  | none =>
    by_cases hb : ((encL l).length : Int) > 16777215
    · simp only [if_pos hb]
    · simp only [if_neg hb]
end Go.Proofs.Yteejpfemaedmkaa.Plain
