import Derived.Test.YteejpfemaedmkaaQG2X22
import Derived.Test.YteejpfemaedmkaaQG2PlainBits
import Derived.Test.YteejpfemaedmkaaQG2PlainVarS
namespace Go.Proofs.Yteejpfemaedmkaa.Plain
set_option linter.unusedSimpArgs false
set_option linter.unusedVariables false
open Go.RowKit Go.Proofs.Yteejpfemaedmkaa.X Go.Proofs.YteejpfemaedmkaaW.PrintWords Go.Proofs.YteejpfemaedmkaaW.PrintLast
theorem put_loop (n : Nat) : ∀ (k : Nat) (acc : List Int), (vput n).length ≤ k → acc.length + (vput n).length ≤ 140737488355328 → varint_Put.l0 k (n : Int) acc = some (acc ++ vput n) := by
  induction n using Nat.strongRecOn with
  | ind n ih =>
    intro k acc hk hc
    have hp := vput_pos n
    obtain ⟨k, rfl⟩ : ∃ m, k = m + 1 := ⟨k - 1, by omega⟩
    simp only [varint_Put.l0]
    by_cases h : n < 128
    · rw [if_neg (by omega), if_pos (by omega), vput_low n h, show (n : Int) % 256 = n by omega]
    · rw [vput_high n h, List.length_cons] at hk hc
      have hb : Go.bits .or .u8 ((n : Int) % 256) 128 = ((128 + n % 128 : Nat) : Int) := by
        rw [show (n : Int) % 256 = ((n % 256 : Nat) : Int) by omega, bits_or8 _ (by omega)]
        congr 2
        omega
      rw [if_pos (by omega), if_pos (by omega), hb, show (n : Int) / 128 = ((n / 128 : Nat) : Int) by omega, ih (n / 128) (by omega) k _ (by omega) (by rw [List.length_append, List.length_singleton]; omega), vput_high n h, List.append_assoc]
      rfl
theorem vput_is (k n : Nat) (l : List Int) (hn : n < 18446744073709551616) (hk : 10 ≤ k) (hl : l.length ≤ 140737488351232) : varint_Put.f k l (n : Int) = some (l ++ vput n) := by
  have h10 := vput_ten n hn
  unfold varint_Put.f
  rw [size_is k n hn hk, Option.bind_some, w64_small _ (by omega) (by omega), if_pos (by omega), if_pos (by omega), if_pos (by omega), Option.bind_some, if_pos (by simp)]
  have e : l ++ (List.replicate ((l.length : Int)).toNat (0 : Int)).drop l.length = l := by
    rw [List.drop_eq_nil_of_le (by simp), List.append_nil]
  rw [e, put_loop n k l (by omega) (by omega)]
theorem take_step (i x c : Nat) (hi : i ≤ 9) (hx : x < 128 ^ i) (hc : c < 256) (h9 : i = 9 → c ≤ 1) :
    Go.bits .or .u64 (x : Int) (shl .u64 (IntKind.u64.wrap (Go.bits .and .u8 (c : Int) 127)) (wrap64 (7 * (i : Int)))) = ((x + c % 128 * 128 ^ i : Nat) : Int) := by
  have hp : (128 : Nat) ^ i = 2 ^ (7 * i) := by rw [show (128 : Nat) = 2 ^ 7 from rfl, ← Nat.pow_mul]
  have hb : c % 128 * 128 ^ i < 18446744073709551616 := by
    by_cases h : i = 9
    · subst h
      have := h9 rfl
      have h2 : c % 128 * 128 ^ 9 ≤ 1 * 128 ^ 9 := Nat.mul_le_mul_right _ (by omega)
      omega
    · have h1 : 128 ^ i ≤ 128 ^ 8 := Nat.pow_le_pow_right (by omega) (by omega)
      have h2 : c % 128 * 128 ^ i ≤ 127 * 128 ^ 8 := Nat.mul_le_mul (by omega) h1
      omega
  have hx2 : x < 18446744073709551616 := by
    have h1 : 128 ^ i ≤ 128 ^ 9 := Nat.pow_le_pow_right (by omega) (by omega)
    omega
  have e : shl .u64 (IntKind.u64.wrap (Go.bits .and .u8 (c : Int) 127)) (wrap64 (7 * (i : Int))) = ((c % 128 * 128 ^ i : Nat) : Int) := by
    rw [bits_and8 c hc, u64_small _ (by omega) (by omega), w64_small _ (by omega) (by omega)]
    unfold shl
    rw [show min (7 * (i : Int)).toNat IntKind.u64.bits = 7 * i by simp only [IntKind.bits]; omega]
    have e2 : ((c % 128 : Nat) : Int) * 2 ^ (7 * i) = ((c % 128 * 128 ^ i : Nat) : Int) := by
      rw [hp]
      push_cast
      rfl
    rw [e2, u64_small _ (by omega) (by omega)]
  rw [e, bits_or _ _ hx2 hb, hp, or_pow (7 * i) x (c % 128) (by omega)]
theorem take_loop (l : List Int) (hr : ∀ b ∈ l, 0 ≤ b ∧ b < 256) (hl : l.length ≤ 140737488351232) (d : Nat) : ∀ (k i x : Nat), i ≤ 9 → x < 128 ^ i → i ≤ l.length → l.length - i = d → 30 ≤ k + 2 * i →
    varint_Take.l0 k (x : Int) l (l.length : Int) (i : Int) = some (vtake i x (l.drop i)) := by
  induction d with
  | zero =>
    intro k i x hi hx h1 h2 hk
    obtain ⟨k, rfl⟩ : ∃ m, k = m + 1 := ⟨k - 1, by omega⟩
    simp only [varint_Take.l0]
    rw [if_neg (by omega), List.drop_eq_nil_of_le (by omega)]
    rfl
  | succ d ih =>
    intro k i x hi hx h1 h2 hk
    obtain ⟨k, rfl⟩ : ∃ m, k = m + 1 + 1 := ⟨k - 2, by omega⟩
    have hil : i < l.length := by omega
    have hrd : rd l (i : Int) = l[i] := by
      unfold rd
      rw [Int.toNat_natCast, List.getD_eq_getElem?_getD, List.getElem?_eq_getElem hil, Option.getD_some]
    obtain ⟨c0, c1⟩ := hr _ (List.getElem_mem hil)
    obtain ⟨c, hc⟩ := Int.eq_ofNat_of_zero_le c0
    have hj : ∀ b, b = decide ((0 < i ∧ (c : Int) = 0) ∨ (i = 9 ∧ 1 < (c : Int))) → varint_Take.j1 (k + 1) (x : Int) (i : Int) (c : Int) l (l.length : Int) (i : Int) b = some (vtake i x (l.drop i)) := by
      intro b hb
      simp only [varint_Take.j1]
      rw [List.drop_eq_getElem_cons hil, hc]
      unfold vtake
      by_cases h : (0 < i ∧ (c : Int) = 0) ∨ (i = 9 ∧ 1 < (c : Int))
      · rw [if_pos (by rw [hb]; exact decide_eq_true h), if_pos h]
      · rw [if_neg (by rw [hb]; simpa using h), if_neg h, if_pos (by rw [w64_small _ (by omega) (by omega)]; omega), take_step i x c hi hx (by omega) (by omega)]
        by_cases h3 : (c : Int) < 128
        · rw [if_pos h3, if_pos h3, w64_small _ (by omega) (by omega)]
          congr 2
        · rw [if_neg h3, if_neg h3, w64_succ' i (by omega)]
          have e : ((c : Int) % 128).toNat = c % 128 := by omega
          rw [e]
          refine ih k (i + 1) _ (by omega) ?_ (by omega) (by omega) (by omega)
          have h4 : c % 128 * 128 ^ i ≤ 127 * 128 ^ i := Nat.mul_le_mul_right _ (by omega)
          rw [Nat.pow_succ]
          omega
    simp only [varint_Take.l0]
    rw [if_pos (by omega), if_pos (by omega), if_pos (by omega), hrd, hc]
    by_cases h1 : (i : Int) > 0
    · rw [if_pos h1]
      by_cases h2 : (c : Int) = 0
      · rw [if_pos h2]
        exact hj true (by rw [decide_eq_true (.inl ⟨by omega, h2⟩)])
      · rw [if_neg h2]
        by_cases h3 : (i : Int) = 9
        · rw [if_pos h3]
          refine hj _ ?_
          rw [decide_eq_decide]
          omega
        · rw [if_neg h3]
          refine hj _ ?_
          rw [decide_eq_false (by omega)]
    · rw [if_neg h1]
      rw [if_neg (by omega)]
      refine hj _ ?_
      rw [decide_eq_false (by omega)]
theorem take_is (k : Nat) (l : List Int) (hr : ∀ b ∈ l, 0 ≤ b ∧ b < 256) (hl : l.length ≤ 140737488351232) (hk : 30 ≤ k) : varint_Take.f k l = some (vtake 0 0 l) := by
  have := take_loop l hr hl l.length k 0 0 (by omega) (by simp) (by omega) (by omega) (by omega)
  rw [List.drop_zero] at this
  exact this
theorem zag_is (y : Int) (h0 : 0 ≤ y) (h : y < 18446744073709551616) : varint_Zag.f y = some (zag y) := by
  unfold varint_Zag.f zag
  rw [bits_and1 y h0 h, w64_small (y / 2) (by omega) (by omega)]
  obtain ⟨n, hn⟩ := Int.eq_ofNat_of_zero_le (show 0 ≤ y / 2 by omega)
  by_cases h2 : y % 2 = 0
  · rw [if_pos h2, h2, show wrap64 (-(wrap64 0)) = 0 by rw [w64_small 0 (by omega) (by omega), w64_small _ (by omega) (by omega)]; rfl, hn, bits_xor_zero_i _ (by omega)]
  · rw [if_neg h2, show y % 2 = 1 by omega, show wrap64 (-(wrap64 1)) = -1 by rw [w64_small 1 (by omega) (by omega), w64_small _ (by omega) (by omega)], hn, bits_xor_ones_i _ (by omega)]
end Go.Proofs.Yteejpfemaedmkaa.Plain
