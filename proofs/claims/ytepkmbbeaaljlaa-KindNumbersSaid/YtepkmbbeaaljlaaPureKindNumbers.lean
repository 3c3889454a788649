/- KindNumbers: ints are ordered as their numbers with signs, uints as theirs, for every four numbers. -/
import Derived.Test.YtepkmbbeaaljlaaSKindNumbers
import Derived.Test.YtepkmbbeaaljlaaPlainAwake
namespace Go.Proofs.Ytepkmbbeaaljlaa.Pure
open Go.RowKit Go.Proofs.Ytepkmbbeaaljlaa.X Go.Proofs.YtepkmbbeaaljlaaW.PrintWords Go.Proofs.YtepkmbbeaaljlaaW.PrintLast Go.Proofs.Ytepkmbbeaaljlaa.Plain
theorem wrap_u64 (x : Int) (h : -9223372036854775808 ≤ x ∧ x < 9223372036854775808) : wrap64 (IntKind.u64.wrap x) = x := by
  have e : IntKind.u64.wrap x = x % 18446744073709551616 := by simp [IntKind.wrap, IntKind.bits, IntKind.signed]
  rw [e]
  unfold wrap64
  omega
theorem KindNumbers : stratumlaw04_KindNumbers.PureX := by
  rintro ⟨x, y, u, v⟩ ⟨hx, hy, hu, hv⟩
  have hx := i64_wf hx
  have hy := i64_wf hy
  have e1 : ordV 2 (IntKind.u64.wrap x) [] 2 (IntKind.u64.wrap y) [] = ordI x y := by
    have h0 : ordI 2 2 = 0 := rfl
    have h1 : ordS [] [] = 0 := rfl
    simp only [ordV, ordN, h0, h1, if_true, wrap_u64 x hx, wrap_u64 y hy]
    split <;> simp_all
  have e2 : ordV 1 u [] 1 v [] = ordI u v := by
    have h0 : ordI 1 1 = 0 := rfl
    have h1 : ordS [] [] = 0 := rfl
    simp only [ordV, ordN, h0, h1, if_true, if_neg (show ¬ (1 : Int) = 2 by omega)]
    split <;> simp_all
  refine ⟨20, ?_⟩
  have h1 := order_is 17 2 (IntKind.u64.wrap x) ⟨#[]⟩ 2 (IntKind.u64.wrap y) ⟨#[]⟩
  have h2 := order_is 17 1 u ⟨#[]⟩ 1 v ⟨#[]⟩
  rw [show (⟨#[]⟩ : ByteArray).toList = [] by simp] at h1 h2
  rw [e1] at h1
  rw [e2] at h2
  simp only [stratumlaw04_KindNumbers.f]
  rw [awake_is 20 (by omega), Option.bind_some, if_pos rfl, h1, Option.bind_some, h2, Option.bind_some]
  have o1 := ordI_or x y
  have o2 := ordI_or u v
  generalize ordI x y = s at o1
  generalize ordI u v = t at o2
  clear h1 h2 e1 e2 hx hy hu hv
  repeat' split
  all_goals first | (exfalso; omega) | rfl | (simp; omega)
end Go.Proofs.Ytepkmbbeaaljlaa.Pure
