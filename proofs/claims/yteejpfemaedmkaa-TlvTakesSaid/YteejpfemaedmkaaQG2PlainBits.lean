import Derived.Test.YteejpfemaedmkaaQG2PlainVar
import Derived.Test.YteejpfemaedmkaaQG2PlainUtf
namespace Go.Proofs.Yteejpfemaedmkaa.Plain
set_option linter.unusedSimpArgs false
set_option linter.unusedVariables false
open Go.RowKit Go.Proofs.Yteejpfemaedmkaa.X Go.Proofs.YteejpfemaedmkaaW.PrintWords Go.Proofs.YteejpfemaedmkaaW.PrintLast
theorem u64_small (x : Int) (h0 : 0 ≤ x) (h : x < 18446744073709551616) : IntKind.u64.wrap x = x := by
  simp [IntKind.wrap, IntKind.bits, IntKind.signed]
  omega
theorem u64_mod (x : Int) : IntKind.u64.wrap x = x % 18446744073709551616 := by
  simp [IntKind.wrap, IntKind.bits, IntKind.signed]
theorem u64_lo (x : Int) : 0 ≤ IntKind.u64.wrap x := by rw [u64_mod]; omega
theorem u64_hi (x : Int) : IntKind.u64.wrap x < 18446744073709551616 := by rw [u64_mod]; omega
theorem ofInt_toNat (n : Nat) (h : n < 18446744073709551616) : (BitVec.ofInt 64 (n : Int)).toNat = n := by
  rw [BitVec.ofInt_natCast, BitVec.toNat_ofNat, Nat.mod_eq_of_lt (by omega)]
theorem bits_or (n m : Nat) (hn : n < 18446744073709551616) (hm : m < 18446744073709551616) : Go.bits .or .u64 n m = ((n ||| m : Nat) : Int) := by
  have hl : n ||| m < 2 ^ 64 := Nat.or_lt_two_pow (by omega) (by omega)
  have h : (BitVec.ofInt 64 (n : Int) ||| BitVec.ofInt 64 (m : Int)).toNat = n ||| m := by
    rw [BitVec.toNat_or, ofInt_toNat n hn, ofInt_toNat m hm]
  unfold Go.bits
  show IntKind.u64.wrap ((BitVec.ofInt 64 (n : Int) ||| BitVec.ofInt 64 (m : Int)).toNat : Int) = _
  rw [h, u64_small _ (by omega) (by omega)]
theorem bits_and (n m : Nat) (hn : n < 18446744073709551616) (hm : m < 18446744073709551616) : Go.bits .and .u64 n m = ((n &&& m : Nat) : Int) := by
  have hl : n &&& m < 2 ^ 64 := Nat.and_lt_two_pow _ (by omega)
  have h : (BitVec.ofInt 64 (n : Int) &&& BitVec.ofInt 64 (m : Int)).toNat = n &&& m := by
    rw [BitVec.toNat_and, ofInt_toNat n hn, ofInt_toNat m hm]
  unfold Go.bits
  show IntKind.u64.wrap ((BitVec.ofInt 64 (n : Int) &&& BitVec.ofInt 64 (m : Int)).toNat : Int) = _
  rw [h, u64_small _ (by omega) (by omega)]
theorem bits_and7 (x : Int) (h0 : 0 ≤ x) (h : x < 18446744073709551616) : Go.bits .and .u64 x 7 = x % 8 := by
  obtain ⟨n, rfl⟩ := Int.eq_ofNat_of_zero_le h0
  have := bits_and n 7 (by omega) (by omega)
  refine this.trans ?_
  rw [show n &&& 7 = n % 8 from Nat.and_two_pow_sub_one_eq_mod n 3]
  omega
theorem bits_and1 (x : Int) (h0 : 0 ≤ x) (h : x < 18446744073709551616) : Go.bits .and .u64 x 1 = x % 2 := by
  obtain ⟨n, rfl⟩ := Int.eq_ofNat_of_zero_le h0
  have := bits_and n 1 (by omega) (by omega)
  refine this.trans ?_
  rw [show n &&& 1 = n % 2 from Nat.and_two_pow_sub_one_eq_mod n 1]
  omega
theorem bits_or8 (n : Nat) (h : n < 256) : Go.bits .or .u8 (n : Int) 128 = ((128 + n % 128 : Nat) : Int) := by
  have hall : ∀ i : Fin 256, Go.bits .or .u8 ((i.val : Nat) : Int) 128 = ((128 + i.val % 128 : Nat) : Int) := by decide +kernel
  exact hall ⟨n, h⟩
theorem bits_and8 (n : Nat) (h : n < 256) : Go.bits .and .u8 (n : Int) 127 = ((n % 128 : Nat) : Int) := by
  have hall : ∀ i : Fin 256, Go.bits .and .u8 ((i.val : Nat) : Int) 127 = ((i.val % 128 : Nat) : Int) := by decide +kernel
  exact hall ⟨n, h⟩
theorem or_pow (j a c : Nat) (h : a < 2 ^ j) : a ||| (c * 2 ^ j) = a + c * 2 ^ j := by
  rw [Nat.mul_comm, Nat.or_comm, Nat.add_comm]
  exact (Nat.two_pow_add_eq_or_of_lt h c).symm
theorem bits_xor_zero (n : Nat) (hn : n < 18446744073709551616) : Go.bits .xor .u64 n 0 = (n : Int) := by
  have h : (BitVec.ofInt 64 (n : Int) ^^^ BitVec.ofInt 64 (0 : Int)).toNat = n := by
    rw [BitVec.toNat_xor, ofInt_toNat n hn, show (BitVec.ofInt 64 (0 : Int)).toNat = 0 from rfl, Nat.xor_zero]
  unfold Go.bits
  show IntKind.u64.wrap ((BitVec.ofInt 64 (n : Int) ^^^ BitVec.ofInt 64 (0 : Int)).toNat : Int) = _
  rw [h, u64_small _ (by omega) (by omega)]
theorem xor_ones (x : BitVec 64) : (x ^^^ BitVec.allOnes 64).toNat = 18446744073709551615 - x.toNat := by
  rw [BitVec.xor_allOnes, BitVec.toNat_not]
theorem bits_xor_ones (n : Nat) (hn : n < 18446744073709551616) : Go.bits .xor .u64 n 18446744073709551615 = (18446744073709551615 : Int) - n := by
  have h : (BitVec.ofInt 64 (n : Int) ^^^ BitVec.ofInt 64 (18446744073709551615 : Int)).toNat = 18446744073709551615 - n := by
    rw [show BitVec.ofInt 64 (18446744073709551615 : Int) = BitVec.allOnes 64 from rfl, xor_ones, ofInt_toNat n hn]
  unfold Go.bits
  show IntKind.u64.wrap ((BitVec.ofInt 64 (n : Int) ^^^ BitVec.ofInt 64 (18446744073709551615 : Int)).toNat : Int) = _
  rw [h, u64_small _ (by omega) (by omega)]
  omega
theorem i64_wrap (x : Int) : IntKind.i64.wrap x = wrap64 x := by
  unfold wrap64
  simp [IntKind.wrap, IntKind.bits, IntKind.signed]
  split <;> omega
theorem bits_xor_zero_i (n : Nat) (hn : n < 9223372036854775808) : Go.bits .xor .i64 n 0 = (n : Int) := by
  have h : (BitVec.ofInt 64 (n : Int) ^^^ BitVec.ofInt 64 (0 : Int)).toNat = n := by
    rw [BitVec.toNat_xor, ofInt_toNat n (by omega), show (BitVec.ofInt 64 (0 : Int)).toNat = 0 from rfl, Nat.xor_zero]
  unfold Go.bits
  show IntKind.i64.wrap ((BitVec.ofInt 64 (n : Int) ^^^ BitVec.ofInt 64 (0 : Int)).toNat : Int) = _
  rw [h, i64_wrap, w64_small _ (by omega) (by omega)]
theorem bits_xor_ones_i (n : Nat) (hn : n < 9223372036854775808) : Go.bits .xor .i64 n (-1) = -(n : Int) - 1 := by
  have h : (BitVec.ofInt 64 (n : Int) ^^^ BitVec.ofInt 64 (-1 : Int)).toNat = 18446744073709551615 - n := by
    rw [show BitVec.ofInt 64 (-1 : Int) = BitVec.allOnes 64 from rfl, xor_ones, ofInt_toNat n (by omega)]
  unfold Go.bits
  show IntKind.i64.wrap ((BitVec.ofInt 64 (n : Int) ^^^ BitVec.ofInt 64 (-1 : Int)).toNat : Int) = _
  rw [h, i64_wrap]
  unfold wrap64
  omega
def zig (x : Int) : Int := if 0 ≤ x then 2 * x else -2 * x - 1
def zag (y : Int) : Int := if y % 2 = 0 then y / 2 else -(y / 2) - 1
theorem zag_zig (x : Int) : zag (zig x) = x := by
  unfold zag zig
  by_cases h : 0 ≤ x
  · rw [if_pos h, if_pos (by omega)]
    omega
  · rw [if_neg h, if_neg (by omega)]
    omega
theorem zig_zag (y : Int) (h0 : 0 ≤ y) : zig (zag y) = y := by
  unfold zag zig
  by_cases h : y % 2 = 0
  · rw [if_pos h, if_pos (by omega)]
    omega
  · rw [if_neg h, if_neg (by omega)]
    omega
theorem zig_lo (x : Int) : 0 ≤ zig x := by unfold zig; split <;> omega
theorem zig_hi (x : Int) (h0 : -9223372036854775808 ≤ x) (h : x < 9223372036854775808) : zig x < 18446744073709551616 := by unfold zig; split <;> omega
theorem w64_lo (x : Int) : -9223372036854775808 ≤ wrap64 x := by unfold wrap64; omega
theorem w64_hi (x : Int) : wrap64 x < 9223372036854775808 := by unfold wrap64; omega
theorem zag_lo (y : Int) (h0 : 0 ≤ y) (h : y < 18446744073709551616) : -9223372036854775808 ≤ zag y := by unfold zag; split <;> omega
theorem zag_hi (y : Int) (h0 : 0 ≤ y) (h : y < 18446744073709551616) : zag y < 9223372036854775808 := by unfold zag; split <;> omega
theorem w64_succ' (i : Nat) (h : i < 140737488351232) : wrap64 ((i : Int) + 1) = ((i + 1 : Nat) : Int) := by
  rw [w64_small _ (by omega) (by omega)]
  omega
theorem w64_u64 (x : Int) (h0 : -9223372036854775808 ≤ x) (h : x < 9223372036854775808) : wrap64 (IntKind.u64.wrap x) = x := by
  rw [u64_mod]; unfold wrap64; omega
theorem u64_w64 (x : Int) (h0 : 0 ≤ x) (h : x < 18446744073709551616) : IntKind.u64.wrap (wrap64 x) = x := by
  rw [u64_mod]; unfold wrap64; omega
end Go.Proofs.Yteejpfemaedmkaa.Plain
