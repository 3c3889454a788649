import Derived.Test.YteejpfemaedmkaaQG2XOpen
namespace Go.Proofs.Yteejpfemaedmkaa.Plain
set_option linter.unusedSimpArgs false
set_option linter.unusedVariables false
open Go.RowKit Go.Proofs.Yteejpfemaedmkaa.X Go.Proofs.YteejpfemaedmkaaW.PrintWords Go.Proofs.YteejpfemaedmkaaW.PrintLast
def vput (n : Nat) : List Int := if h : n < 128 then [(n : Int)] else ((128 + n % 128 : Nat) : Int) :: vput (n / 128)
termination_by n
decreasing_by omega
theorem vput_low (n : Nat) (h : n < 128) : vput n = [(n : Int)] := by rw [vput, dif_pos h]
theorem vput_high (n : Nat) (h : ¬ n < 128) : vput n = ((128 + n % 128 : Nat) : Int) :: vput (n / 128) := by rw [vput, dif_neg h]
theorem vput_pos (n : Nat) : 0 < (vput n).length := by
  by_cases h : n < 128
  · rw [vput_low n h]; simp
  · rw [vput_high n h]; simp
theorem vput_small (m : Nat) : ∀ n, n < 128 ^ (m + 1) → (vput n).length ≤ m + 1 := by
  induction m with
  | zero =>
    intro n h
    rw [vput_low n (by omega)]
    simp
  | succ m ih =>
    intro n h
    by_cases h' : n < 128
    · rw [vput_low n h']
      simp
    · rw [vput_high n h', List.length_cons]
      have := ih (n / 128) (by rw [Nat.pow_succ] at h; omega)
      omega
theorem vput_ten (n : Nat) (h : n < 18446744073709551616) : (vput n).length ≤ 10 := vput_small 9 n (by omega)
theorem vput_range (n : Nat) : ∀ b ∈ vput n, 0 ≤ b ∧ b < 256 := by
  induction n using Nat.strongRecOn with
  | ind n ih =>
    by_cases h : n < 128
    · rw [vput_low n h]
      intro b hb
      rw [List.mem_singleton] at hb
      omega
    · rw [vput_high n h]
      intro b hb
      rcases List.mem_cons.1 hb with rfl | hb
      · omega
      · exact ih (n / 128) (by omega) b hb
/-- The number at the front: its value, its bytes, a code. -/
def vtake : Nat → Nat → List Int → Int × Int × Int
  | _, _, [] => (0, 0, 5)
  | i, x, c :: l => if (0 < i ∧ c = 0) ∨ (i = 9 ∧ 1 < c) then (0, 0, 3) else if c < 128 then ((x : Int) + (c % 128) * 128 ^ i, (i : Int) + 1, 0) else vtake (i + 1) (x + (c % 128).toNat * 128 ^ i) l
theorem vtake_vput (n : Nat) : ∀ (i x : Nat) (rest : List Int), (i = 0 ∨ 0 < n) → n * 128 ^ i < 18446744073709551616 → vtake i x (vput n ++ rest) = ((x : Int) + n * 128 ^ i, (i : Int) + (vput n).length, 0) := by
  induction n using Nat.strongRecOn with
  | ind n ih =>
    intro i x rest h0 hb
    have h9 : i = 9 → n ≤ 1 := by
      rintro rfl
      omega
    by_cases h : n < 128
    · rw [vput_low n h, List.cons_append, List.nil_append]
      unfold vtake
      rw [if_neg (by omega), if_pos (by omega)]
      have e : (n : Int) % 128 = n := by omega
      rw [e, List.length_singleton]
      rfl
    · have hi : i ≠ 9 := fun e => by have := h9 e; omega
      rw [vput_high n h, List.cons_append]
      unfold vtake
      rw [if_neg (by omega), if_neg (by omega)]
      have e : (((128 + n % 128 : Nat) : Int) % 128).toNat = n % 128 := by omega
      rw [e]
      have e2 : n * 128 ^ i = (n % 128) * 128 ^ i + (n / 128) * 128 ^ (i + 1) := by
        rw [Nat.pow_succ, Nat.mul_comm (128 ^ i) 128, ← Nat.mul_assoc, ← Nat.add_mul]
        congr 1
        omega
      rw [ih (n / 128) (by omega) (i + 1) _ rest (by omega) (by omega), List.length_cons]
      have e3 : ((n * 128 ^ i : Nat) : Int) = (((n % 128) * 128 ^ i + (n / 128) * 128 ^ (i + 1) : Nat) : Int) := congrArg _ e2
      simp only [Prod.mk.injEq, and_true]
      push_cast at e3 ⊢
      refine ⟨by omega, by omega⟩
theorem vtake_inv : ∀ (l : List Int) (i x : Nat) (y m : Int), (∀ b ∈ l, 0 ≤ b ∧ b < 256) → i ≤ 9 → vtake i x l = (y, m, 0) →
    ∃ n : Nat, (i = 0 ∨ 0 < n) ∧ n * 128 ^ i < 18446744073709551616 ∧ y = (x : Int) + n * 128 ^ i ∧ m = (i : Int) + (vput n).length ∧ ∃ rest, l = vput n ++ rest := by
  intro l
  induction l with
  | nil =>
    intro i x y m _ _ h
    simp [vtake] at h
  | cons c l ih =>
    intro i x y m hr hi h
    obtain ⟨c0, c1⟩ := hr c (List.mem_cons_self)
    unfold vtake at h
    by_cases h1 : (0 < i ∧ c = 0) ∨ (i = 9 ∧ 1 < c)
    · rw [if_pos h1] at h
      simp at h
    rw [if_neg h1] at h
    obtain ⟨n, rfl⟩ := Int.eq_ofNat_of_zero_le c0
    by_cases h2 : (n : Int) < 128
    · rw [if_pos h2] at h
      simp only [Prod.mk.injEq, and_true] at h
      obtain ⟨rfl, rfl⟩ := h
      have e : (n : Int) % 128 = n := by omega
      have hb : n * 128 ^ i < 18446744073709551616 := by
        by_cases h9 : i = 9
        · subst h9
          omega
        · have hp : 128 ^ i ≤ 128 ^ 8 := Nat.pow_le_pow_right (by omega) (by omega)
          have : n * 128 ^ i ≤ 127 * 128 ^ 8 := Nat.mul_le_mul (by omega) hp
          omega
      refine ⟨n, by omega, hb, by rw [e], ?_, l, ?_⟩
      · rw [vput_low n (by omega)]
        rfl
      · rw [vput_low n (by omega)]
        rfl
    · rw [if_neg h2] at h
      obtain ⟨n', g1, g2, g3, g4, rest, g5⟩ := ih (i + 1) _ y m (fun b hb => hr b (List.mem_cons_of_mem _ hb)) (by omega) h
      have hn' : 0 < n' := by omega
      have e : (((n : Nat) : Int) % 128).toNat = n % 128 := by omega
      have q1 : ¬ (n % 128 + 128 * n' < 128) := by omega
      have q2 : (n % 128 + 128 * n') / 128 = n' := by omega
      have q3 : 128 + (n % 128 + 128 * n') % 128 = n := by omega
      have q4 : (n % 128 + 128 * n') * 128 ^ i = (n % 128) * 128 ^ i + n' * 128 ^ (i + 1) := by
        rw [Nat.pow_succ, Nat.mul_comm (128 ^ i) 128, ← Nat.mul_assoc, ← Nat.add_mul, Nat.mul_comm n' 128]
      have q5 : vput (n % 128 + 128 * n') = (n : Int) :: vput n' := by rw [vput_high _ q1, q2, q3]
      refine ⟨n % 128 + 128 * n', by omega, ?_, ?_, ?_, rest, ?_⟩
      · have hp : (n % 128) * 128 ^ i < 128 * 128 ^ i := (Nat.mul_lt_mul_right (Nat.pow_pos (by omega))).2 (by omega)
        have hlt : i ≤ 8 := by omega
        -- n' * 128^(i+1) < 2^64 and 128^(i+1) divides 2^64 up to i = 8
        have hd : ∃ d, 18446744073709551616 = d * 128 ^ (i + 1) := by
          refine ⟨2 ^ (64 - 7 * (i + 1)), ?_⟩
          rw [show (128 : Nat) = 2 ^ 7 from rfl, ← Nat.pow_mul, ← Nat.pow_add, show 64 - 7 * (i + 1) + 7 * (i + 1) = 64 by omega]
        obtain ⟨d, hd⟩ := hd
        rw [hd] at g2
        have hnd : n' < d := Nat.lt_of_mul_lt_mul_right g2
        have h3 : (n' + 1) * 128 ^ (i + 1) ≤ d * 128 ^ (i + 1) := Nat.mul_le_mul_right _ hnd
        rw [q4]
        have h4 : (n' + 1) * 128 ^ (i + 1) = n' * 128 ^ (i + 1) + 128 * 128 ^ i := by
          rw [Nat.add_mul, Nat.one_mul]
          congr 1
          rw [Nat.pow_succ, Nat.mul_comm]
        omega
      · rw [g3, e]
        have q6 : (((n % 128 + 128 * n') * 128 ^ i : Nat) : Int) = (((n % 128) * 128 ^ i + n' * 128 ^ (i + 1) : Nat) : Int) := congrArg _ q4
        push_cast at q6 ⊢
        omega
      · rw [g4, q5, List.length_cons]
        push_cast
        omega
      · rw [q5, List.cons_append, ← g5]
end Go.Proofs.Yteejpfemaedmkaa.Plain
