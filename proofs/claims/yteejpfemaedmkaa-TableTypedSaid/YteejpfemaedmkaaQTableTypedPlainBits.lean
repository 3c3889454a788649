import Derived.Test.YteejpfemaedmkaaQTableTypedPlainVar
import Derived.Test.YteejpfemaedmkaaQTableTypedPlainUtf
namespace Go.Proofs.Yteejpfemaedmkaa.Plain
set_option linter.unusedSimpArgs false
set_option linter.unusedVariables false
open Go.RowKit Go.Proofs.Yteejpfemaedmkaa.X Go.Proofs.YteejpfemaedmkaaW.PrintWords Go.Proofs.YteejpfemaedmkaaW.PrintLast
theorem u64_small (x : Int) (h0 : 0 ≤ x) (h : x < 18446744073709551616) : IntKind.u64.wrap x = x := by
  simp [IntKind.wrap, IntKind.bits, IntKind.signed]
  omega
theorem u64_mod (x : Int) : IntKind.u64.wrap x = x % 18446744073709551616 := by
  simp [IntKind.wrap, IntKind.bits, IntKind.signed]
theorem ofInt_toNat (n : Nat) (h : n < 18446744073709551616) : (BitVec.ofInt 64 (n : Int)).toNat = n := by
  rw [BitVec.ofInt_natCast, BitVec.toNat_ofNat, Nat.mod_eq_of_lt (by omega)]
theorem bits_xor_zero (n : Nat) (hn : n < 18446744073709551616) : Go.bits .xor .u64 n 0 = (n : Int) := by
  have h : (BitVec.ofInt 64 (n : Int) ^^^ BitVec.ofInt 64 (0 : Int)).toNat = n := by
    rw [BitVec.toNat_xor, ofInt_toNat n hn, show (BitVec.ofInt 64 (0 : Int)).toNat = 0 from rfl, Nat.xor_zero]
  unfold Go.bits
  show IntKind.u64.wrap ((BitVec.ofInt 64 (n : Int) ^^^ BitVec.ofInt 64 (0 : Int)).toNat : Int) = _
  rw [h, u64_small _ (by omega) (by omega)]
theorem xor_ones (x : BitVec 64) : (x ^^^ BitVec.allOnes 64).toNat = 18446744073709551615 - x.toNat := by
  rw [BitVec.xor_allOnes, BitVec.toNat_not]
theorem bits_xor_ones (n : Nat) (hn : n < 18446744073709551616) : Go.bits .xor .u64 n 18446744073709551615 = (18446744073709551615 : Int) - n := by
  have h : (BitVec.ofInt 64 (n : Int) ^^^ BitVec.ofInt 64 (18446744073709551615 : Int)).toNat = 18446744073709551615 - n := by
    rw [show BitVec.ofInt 64 (18446744073709551615 : Int) = BitVec.allOnes 64 from rfl, xor_ones, ofInt_toNat n hn]
  unfold Go.bits
  show IntKind.u64.wrap ((BitVec.ofInt 64 (n : Int) ^^^ BitVec.ofInt 64 (18446744073709551615 : Int)).toNat : Int) = _
  rw [h, u64_small _ (by omega) (by omega)]
  omega
def zig (x : Int) : Int := if 0 ≤ x then 2 * x else -2 * x - 1
theorem zig_lo (x : Int) : 0 ≤ zig x := by unfold zig; split <;> omega
theorem zig_hi (x : Int) (h0 : -9223372036854775808 ≤ x) (h : x < 9223372036854775808) : zig x < 18446744073709551616 := by unfold zig; split <;> omega
theorem w64_lo (x : Int) : -9223372036854775808 ≤ wrap64 x := by unfold wrap64; omega
theorem w64_hi (x : Int) : wrap64 x < 9223372036854775808 := by unfold wrap64; omega
theorem w64_succ' (i : Nat) (h : i < 140737488351232) : wrap64 ((i : Int) + 1) = ((i + 1 : Nat) : Int) := by
  rw [w64_small _ (by omega) (by omega)]
  omega
end Go.Proofs.Yteejpfemaedmkaa.Plain
