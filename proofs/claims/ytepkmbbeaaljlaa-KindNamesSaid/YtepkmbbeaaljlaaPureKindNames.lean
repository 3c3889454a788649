/- KindNames: names and numbers of kinds are the document's, and each other's way back, for every text and every number. -/
import Derived.Test.YtepkmbbeaaljlaaX11
import Derived.Test.YtepkmbbeaaljlaaPlainAwake
namespace Go.Proofs.Ytepkmbbeaaljlaa.Pure
open Go.RowKit Go.Proofs.Ytepkmbbeaaljlaa.X Go.Proofs.YtepkmbbeaaljlaaW.PrintWords Go.Proofs.YtepkmbbeaaljlaaW.PrintLast Go.Proofs.Ytepkmbbeaaljlaa.Plain
def nameOf (a : Int) : List UInt8 := if a = 1 then [117, 105, 110, 116] else if a = 2 then [105, 110, 116] else if a = 3 then [98, 111, 111, 108] else if a = 4 then [116, 101, 120, 116] else if a = 5 then [98, 121, 116, 101, 115] else []
def numOf (s : List UInt8) : Int := if s = [117, 105, 110, 116] then 1 else if s = [105, 110, 116] then 2 else if s = [98, 111, 111, 108] then 3 else if s = [116, 101, 120, 116] then 4 else if s = [98, 121, 116, 101, 115] then 5 else 0
theorem of_is (s : ByteArray) : kind_Of.f s = some (numOf s.toList) := rfl
theorem name_is (a : Int) : ∃ b : ByteArray, kind_Name.f a = some b ∧ stratumref04_Name.f a = some b ∧ stratumref04_name.f a = some b ∧ b.toList = nameOf a := by
  unfold kind_Name.f stratumref04_Name.f stratumref04_name.f nameOf
  by_cases h1 : a = 1
  · subst h1; exact ⟨_, rfl, rfl, rfl, by simp [ByteArray.toList_eq]⟩
  by_cases h2 : a = 2
  · subst h2; exact ⟨_, rfl, rfl, rfl, by simp [ByteArray.toList_eq]⟩
  by_cases h3 : a = 3
  · subst h3; exact ⟨_, rfl, rfl, rfl, by simp [ByteArray.toList_eq]⟩
  by_cases h4 : a = 4
  · subst h4; exact ⟨_, rfl, rfl, rfl, by simp [ByteArray.toList_eq]⟩
  by_cases h5 : a = 5
  · subst h5; exact ⟨_, rfl, rfl, rfl, by simp [ByteArray.toList_eq]⟩
  simp only [if_neg h1, if_neg h2, if_neg h3, if_neg h4, if_neg h5]
  exact ⟨_, rfl, rfl, rfl, by simp [ByteArray.toList_eq]⟩
theorem ref_name (a : Int) (b : ByteArray) (h : stratumref04_name.f a = some b) : b.toList = nameOf a := by
  obtain ⟨c, _, _, hc, e⟩ := name_is a
  rw [hc] at h
  rw [← Option.some.inj h]
  exact e
theorem ref_of (s : ByteArray) : stratumref04_Of.f 20 s = some (numOf s.toList) := by
  obtain ⟨b1, _, _, h1, e1⟩ := name_is 1
  obtain ⟨b2, _, _, h2, e2⟩ := name_is 2
  obtain ⟨b3, _, _, h3, e3⟩ := name_is 3
  obtain ⟨b4, _, _, h4, e4⟩ := name_is 4
  obtain ⟨b5, _, _, h5, e5⟩ := name_is 5
  have w1 : wrap64 (1 + 1) = 2 := by unfold wrap64; omega
  have w2 : wrap64 (2 + 1) = 3 := by unfold wrap64; omega
  have w3 : wrap64 (3 + 1) = 4 := by unfold wrap64; omega
  have w4 : wrap64 (4 + 1) = 5 := by unfold wrap64; omega
  have w5 : wrap64 (5 + 1) = 6 := by unfold wrap64; omega
  unfold stratumref04_Of.f
  simp only [stratumref04_Of.l0, h1, h2, h3, h4, h5, e1, e2, e3, e4, e5, w1, w2, w3, w4, w5, Option.bind_some, nameOf, numOf]
  simp only [show (1 : Int) ≤ 5 from by decide, show (2 : Int) ≤ 5 from by decide, show (3 : Int) ≤ 5 from by decide, show (4 : Int) ≤ 5 from by decide, show (5 : Int) ≤ 5 from by decide, show ¬ (6 : Int) ≤ 5 from by decide, if_true, if_false]
  simp only [eq_comm (b := s.toList)]
  simp
  split <;> (try split) <;> (try split) <;> (try split) <;> (try split) <;> rfl
theorem num_name (s : List UInt8) (h : numOf s ≠ 0) : nameOf (numOf s) = s := by
  unfold numOf at h ⊢
  repeat' (split; · subst_vars; rfl)
  simp_all
theorem name_empty (a : Int) : nameOf a = [] ↔ a < 1 ∨ a > 5 := by
  unfold nameOf
  repeat' split
  all_goals first | (simp; omega) | (simp; done)
theorem name_num (a : Int) (h : nameOf a ≠ []) : numOf (nameOf a) = a := by
  unfold nameOf at h ⊢
  repeat' (split; · subst_vars; rfl)
  simp_all
theorem KindNames : stratumlaw04_KindNames.Pure := by
  intro s a _ _
  refine ⟨20, ?_⟩
  obtain ⟨b, hb, hb', _, eb⟩ := name_is a
  simp only [stratumlaw04_KindNames.f]
  rw [awake_is 20 (by omega), Option.bind_some, if_pos rfl, of_is, Option.bind_some, ref_of, Option.bind_some, if_pos rfl, hb, Option.bind_some, hb', Option.bind_some, bne_self_eq_false]
  simp only [stratumlaw04_KindNames.j0]
  obtain ⟨c, hc, _, _, ec⟩ := name_is (numOf s.toList)
  simp only [of_is, hb, hc, Option.bind_some, eb, ec]
  have h1 := num_name s.toList
  have h2 := name_empty a
  have h3 := name_num a
  by_cases n0 : numOf s.toList = 0
  · by_cases q : nameOf a = []
    · have := h2.mp q
      by_cases l : a < 1
      · simp [n0, q, l]
      · have l2 : a > 5 := by omega
        simp [n0, q, l, l2]
    · have : ¬ (a < 1 ∨ a > 5) := fun h => q (h2.mpr h)
      have l : ¬ a < 1 := by omega
      have l2 : ¬ a > 5 := by omega
      simp [n0, q, l, l2, h3 q]
  · have h1 := h1 n0
    by_cases q : nameOf a = []
    · have := h2.mp q
      by_cases l : a < 1
      · simp [n0, q, l, h1]
      · have l2 : a > 5 := by omega
        simp [n0, q, l, l2, h1]
    · have : ¬ (a < 1 ∨ a > 5) := fun h => q (h2.mpr h)
      have l : ¬ a < 1 := by omega
      have l2 : ¬ a > 5 := by omega
      simp [n0, q, l, l2, h3 q, h1]
end Go.Proofs.Ytepkmbbeaaljlaa.Pure
