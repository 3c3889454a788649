import Derived.Test.YtepkmbbeaaljlaaX4
namespace Go.Proofs.Ytepkmbbeaaljlaa.Plain
set_option linter.unusedSimpArgs false
open Go.RowKit Go.Proofs.Ytepkmbbeaaljlaa.X Go.Proofs.YtepkmbbeaaljlaaW.PrintWords Go.Proofs.YtepkmbbeaaljlaaW.PrintLast
theorem less_self : ∀ a : List UInt8, Op.bytesLess a a = false
  | [] => by simp [Op.bytesLess]
  | a :: x => by simp [Op.bytesLess, less_self x]
theorem less_trans : ∀ a b c : List UInt8, Op.bytesLess a b = true → Op.bytesLess b c = true → Op.bytesLess a c = true
  | _, [], _, h, _ => by simp [Op.bytesLess] at h
  | _, _ :: _, [], _, h => by simp [Op.bytesLess] at h
  | [], _ :: _, _ :: _, _, _ => by simp [Op.bytesLess]
  | a :: x, b :: y, c :: z, h, k => by
    have ih := less_trans x y z
    simp only [Op.bytesLess, Bool.or_eq_true, Bool.and_eq_true, beq_iff_eq, decide_eq_true_eq, UInt8.lt_iff_toNat_lt] at h k ⊢
    rcases h with h | ⟨rfl, h⟩
    · rcases k with k | ⟨rfl, k⟩
      · exact .inl (by omega)
      · exact .inl h
    · rcases k with k | ⟨rfl, k⟩
      · exact .inl k
      · exact .inr ⟨rfl, ih h k⟩
theorem less_asymm (a b : List UInt8) (h : Op.bytesLess a b = true) : Op.bytesLess b a = false := by
  rw [← less_turn, h]
  rfl
theorem less_not (a b : List UInt8) (h : Op.bytesLess a b = false) (k : Op.bytesLess b a = false) : a = b := by
  rw [← less_turn, h] at k
  simpa using k
def ordI (a b : Int) : Int := if a < b then -1 else if b < a then 1 else 0
def ordS (a b : List UInt8) : Int := if Op.bytesLess a b = true then -1 else if Op.bytesLess b a = true then 1 else 0
theorem ordI_or (a b : Int) : (a < b ∧ ordI a b = -1) ∨ (a = b ∧ ordI a b = 0) ∨ (b < a ∧ ordI a b = 1) := by
  unfold ordI
  split
  · exact .inl ⟨by assumption, rfl⟩
  · split
    · exact .inr (.inr ⟨by assumption, rfl⟩)
    · exact .inr (.inl ⟨by omega, rfl⟩)
theorem ordS_or (a b : List UInt8) : (Op.bytesLess a b = true ∧ Op.bytesLess b a = false ∧ ordS a b = -1) ∨ (a = b ∧ ordS a b = 0) ∨ (Op.bytesLess b a = true ∧ Op.bytesLess a b = false ∧ ordS a b = 1) := by
  unfold ordS
  by_cases h : Op.bytesLess a b = true
  · rw [if_pos h]
    exact .inl ⟨h, less_asymm _ _ h, rfl⟩
  · rw [if_neg h]
    by_cases k : Op.bytesLess b a = true
    · rw [if_pos k]
      exact .inr (.inr ⟨k, by simpa using h, rfl⟩)
    · rw [if_neg k]
      exact .inr (.inl ⟨less_not a b (by simpa using h) (by simpa using k), rfl⟩)
theorem ordS_turn (a b : List UInt8) : ordS b a = - ordS a b := by
  unfold ordS
  by_cases h : Op.bytesLess a b = true
  · have := less_asymm a b h
    simp [h, this]
  · by_cases k : Op.bytesLess b a = true
    · simp [h, k]
    · simp [h, k]
/-- The three orders of three texts. -/
theorem ordS_three (a b c : List UInt8) : (ordS a b ≤ 0 ∧ ordS b c ≤ 0 → ordS a c ≤ 0) ∧ (ordS a b < 0 ∧ ordS b c ≤ 0 → ordS a c < 0) ∧ (ordS a b ≤ 0 ∧ ordS b c < 0 → ordS a c < 0) := by
  rcases ordS_or a b with ⟨h1, h2, h⟩ | ⟨rfl, h⟩ | ⟨h1, h2, h⟩
  · rcases ordS_or b c with ⟨k1, k2, k⟩ | ⟨rfl, k⟩ | ⟨k1, k2, k⟩
    · have := less_trans a b c h1 k1
      have e : ordS a c = -1 := by unfold ordS; rw [if_pos this]
      omega
    · omega
    · omega
  · have := ordS_or a c
    omega
  · omega
theorem wrap_inj (x y : Int) (hx : 0 ≤ x) (hx' : x < 18446744073709551616) (hy : 0 ≤ y) (hy' : y < 18446744073709551616) (h : wrap64 x = wrap64 y) : x = y := by
  unfold wrap64 at h
  omega
theorem compare_int (a b : Int) : cmp_Compare_int.f a b = some (ordI a b) := by
  simp only [cmp_Compare_int.f, cmp_isNaN_int.f, bne_self_eq_false, Option.bind_some, ordI, gt_iff_lt]
  simp
  split <;> (try split) <;> rfl
theorem compare_uint64 (a b : Int) : cmp_Compare_uint64.f a b = some (ordI a b) := by
  simp only [cmp_Compare_uint64.f, cmp_isNaN_uint64.f, bne_self_eq_false, Option.bind_some, ordI, gt_iff_lt]
  simp
  split <;> (try split) <;> rfl
theorem compare_int64 (a b : Int) : cmp_Compare_int64.f a b = some (ordI a b) := by
  simp only [cmp_Compare_int64.f, cmp_isNaN_int64.f, bne_self_eq_false, Option.bind_some, ordI, gt_iff_lt]
  simp
  split <;> (try split) <;> rfl
theorem compare_string (a b : ByteArray) : cmp_Compare_string.f a b = some (ordS a.toList b.toList) := by
  simp only [cmp_Compare_string.f, cmp_isNaN_string.f, bne_self_eq_false, Option.bind_some, ordS]
  simp
  split <;> (try split) <;> rfl
theorem or_two (k : Nat) (x y : Int) : cmp_Or_int.f (k + 3) [x, y] = some (if x = 0 then y else x) := by
  have h2 : (1 : Int) < 2 := by omega
  simp only [cmp_Or_int.f, cmp_Or_int.l0, List.length_cons, List.length_nil]
  by_cases hx : x = 0
  · by_cases hy : y = 0
    · simp [rd, wrap64, hx, hy]
    · simp [rd, wrap64, hx, hy]
  · simp [rd, wrap64, hx]
/-- Two values' order. -/
def ordN (k : Int) (m n : Int) : Int := if k = 2 then ordI (wrap64 m) (wrap64 n) else ordI m n
def ordV (ak an : Int) (sa : List UInt8) (bk bn : Int) (sb : List UInt8) : Int :=
  if ordI ak bk = 0 then (if ordN ak an bn = 0 then ordS sa sb else ordN ak an bn) else ordI ak bk
theorem order_is (k : Nat) (ak an : Int) (sa : ByteArray) (bk bn : Int) (sb : ByteArray) : kind_Order.f (k + 3) ak an sa bk bn sb = some (ordV ak an sa.toList bk bn sb.toList) := by
  simp only [kind_Order.f, compare_int, compare_uint64, compare_int64, compare_string, or_two, Option.bind_some, ordV, ordN]
  by_cases h1 : ordI ak bk = 0
  · rw [if_pos h1, if_pos h1]
    by_cases h2 : ak = 2
    · simp [h2]
    · simp [h2]
  · rw [if_neg h1, if_neg h1]
theorem ordN_or (k m n : Int) (hm : 0 ≤ m ∧ m < 18446744073709551616) (hn : 0 ≤ n ∧ n < 18446744073709551616) : (ordN k m n = -1 ∨ (m = n ∧ ordN k m n = 0) ∨ ordN k m n = 1) ∧ ordN k n m = - ordN k m n := by
  unfold ordN
  split
  · have h := ordI_or (wrap64 m) (wrap64 n)
    have h' := ordI_or (wrap64 n) (wrap64 m)
    have hi := wrap_inj m n hm.1 hm.2 hn.1 hn.2
    omega
  · have h := ordI_or m n
    have h' := ordI_or n m
    omega
theorem ordN_three (k l m n : Int) : (ordN k l m ≤ 0 ∧ ordN k m n ≤ 0 → ordN k l n ≤ 0) ∧ (ordN k l m < 0 ∧ ordN k m n ≤ 0 → ordN k l n < 0) ∧ (ordN k l m ≤ 0 ∧ ordN k m n < 0 → ordN k l n < 0) := by
  unfold ordN
  split
  · have h1 := ordI_or (wrap64 l) (wrap64 m)
    have h2 := ordI_or (wrap64 m) (wrap64 n)
    have h3 := ordI_or (wrap64 l) (wrap64 n)
    omega
  · have h1 := ordI_or l m
    have h2 := ordI_or m n
    have h3 := ordI_or l n
    omega
theorem u64_wf {n : Int} (h : (Lit.int .u64 n).wf = true) : 0 ≤ n ∧ n < 18446744073709551616 := by
  simp only [Lit.wf, IntKind.min, IntKind.max, IntKind.signed, IntKind.bits, Bool.and_eq_true, decide_eq_true_eq] at h
  simp at h
  omega
theorem i64_wf {n : Int} (h : (Lit.int .i64 n).wf = true) : -9223372036854775808 ≤ n ∧ n < 9223372036854775808 := by
  simp only [Lit.wf, IntKind.min, IntKind.max, IntKind.signed, IntKind.bits, Bool.and_eq_true, decide_eq_true_eq] at h
  simp at h
  omega
end Go.Proofs.Ytepkmbbeaaljlaa.Plain
