import Derived.Test.YteejpfemaedmkaaQG2X5
import Derived.Test.YteejpfemaedmkaaQG2PlainBits
namespace Go.Proofs.Yteejpfemaedmkaa.Plain
set_option linter.unusedSimpArgs false
set_option linter.unusedVariables false
open Go.RowKit Go.Proofs.Yteejpfemaedmkaa.X Go.Proofs.YteejpfemaedmkaaW.PrintWords Go.Proofs.YteejpfemaedmkaaW.PrintLast
theorem size_loop (n : Nat) : ∀ (k c : Nat), (vput n).length ≤ k → c + (vput n).length ≤ 1000 → varint_Size.l0 k (n : Int) (c : Int) = some ((c + (vput n).length - 1 : Nat) : Int) := by
  induction n using Nat.strongRecOn with
  | ind n ih =>
    intro k c hk hc
    have hp := vput_pos n
    obtain ⟨k, rfl⟩ : ∃ m, k = m + 1 := ⟨k - 1, by omega⟩
    simp only [varint_Size.l0]
    by_cases h : n < 128
    · rw [if_neg (by omega), vput_low n h]
      rfl
    · rw [vput_high n h, List.length_cons] at hk hc ⊢
      rw [if_pos (by omega), w64_small _ (by omega) (by omega), show (n : Int) / 128 = ((n / 128 : Nat) : Int) by omega, show (c : Int) + 1 = ((c + 1 : Nat) : Int) by omega, ih (n / 128) (by omega) k (c + 1) (by omega) (by omega)]
      congr 2
      omega
theorem size_is (k n : Nat) (hn : n < 18446744073709551616) (hk : 10 ≤ k) : varint_Size.f k (n : Int) = some ((vput n).length : Int) := by
  have := vput_ten n hn
  unfold varint_Size.f
  have h := size_loop n k 1 (by omega) (by omega)
  rw [show (1 + (vput n).length - 1) = (vput n).length by omega] at h
  exact h
theorem zig_is (x : Int) (h0 : -9223372036854775808 ≤ x) (h : x < 9223372036854775808) : varint_Zig.f x = some (zig x) := by
  unfold varint_Zig.f zig
  by_cases hx : 0 ≤ x
  · obtain ⟨n, rfl⟩ := Int.eq_ofNat_of_zero_le hx
    rw [if_pos hx, show (n : Int) / 9223372036854775808 = 0 by omega, u64_small n (by omega) (by omega), u64_small _ (by omega) (by omega), show IntKind.u64.wrap 0 = 0 from rfl, show (n : Int) * 2 = ((n * 2 : Nat) : Int) by omega, bits_xor_zero _ (by omega)]
    congr 1
    omega
  · have e : IntKind.u64.wrap (IntKind.u64.wrap x * 2) = (((2 * x + 18446744073709551616).toNat : Nat) : Int) := by
      rw [u64_mod, u64_mod]; omega
    rw [if_neg hx, show x / 9223372036854775808 = -1 by omega, e, show IntKind.u64.wrap (-1) = 18446744073709551615 from rfl, bits_xor_ones _ (by omega)]
    congr 1
    omega
end Go.Proofs.Yteejpfemaedmkaa.Plain
