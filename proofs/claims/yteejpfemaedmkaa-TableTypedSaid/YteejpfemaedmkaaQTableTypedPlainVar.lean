import Derived.Test.YteejpfemaedmkaaQTableTypedXOpen
namespace Go.Proofs.Yteejpfemaedmkaa.Plain
set_option linter.unusedSimpArgs false
set_option linter.unusedVariables false
open Go.RowKit Go.Proofs.Yteejpfemaedmkaa.X Go.Proofs.YteejpfemaedmkaaW.PrintWords Go.Proofs.YteejpfemaedmkaaW.PrintLast
def vput (n : Nat) : List Int := if h : n < 128 then [(n : Int)] else ((128 + n % 128 : Nat) : Int) :: vput (n / 128)
termination_by n
decreasing_by omega
theorem vput_low (n : Nat) (h : n < 128) : vput n = [(n : Int)] := by rw [vput, dif_pos h]
theorem vput_high (n : Nat) (h : ¬ n < 128) : vput n = ((128 + n % 128 : Nat) : Int) :: vput (n / 128) := by rw [vput, dif_neg h]
theorem vput_pos (n : Nat) : 0 < (vput n).length := by
  by_cases h : n < 128
  · rw [vput_low n h]; simp
  · rw [vput_high n h]; simp
theorem vput_small (m : Nat) : ∀ n, n < 128 ^ (m + 1) → (vput n).length ≤ m + 1 := by
  induction m with
  | zero =>
    intro n h
    rw [vput_low n (by omega)]
    simp
  | succ m ih =>
    intro n h
    by_cases h' : n < 128
    · rw [vput_low n h']
      simp
    · rw [vput_high n h', List.length_cons]
      have := ih (n / 128) (by rw [Nat.pow_succ] at h; omega)
      omega
theorem vput_ten (n : Nat) (h : n < 18446744073709551616) : (vput n).length ≤ 10 := vput_small 9 n (by omega)
end Go.Proofs.Yteejpfemaedmkaa.Plain
