/- KindValid: of the same number and text the kinds are valid just as the document says, and no other kind is, for every kind, number and text. -/
import Derived.Test.YtepkmbbeaaljlaaX11
import Derived.Test.YtepkmbbeaaljlaaPlainAwake
import Derived.Test.YtepkmbbeaaljlaaPlainUtf
namespace Go.Proofs.Ytepkmbbeaaljlaa.Pure
open Go.RowKit Go.Proofs.Ytepkmbbeaaljlaa.X Go.Proofs.YtepkmbbeaaljlaaW.PrintWords Go.Proofs.YtepkmbbeaaljlaaW.PrintLast Go.Proofs.Ytepkmbbeaaljlaa.Plain
def validV (k n : Int) (s : ByteArray) : Bool :=
  if k = 1 ∨ k = 2 then s.toList.isEmpty else if k = 3 then decide (n ≤ 1) && s.toList.isEmpty else if k = 4 then (n == 0) && validB s else if k = 5 then n == 0 else false
theorem kind_valid (q : Nat) (k n : Int) (s : ByteArray) (hs : s.size ≤ 140737488351232) (hq : s.size + 10 ≤ q) : kind_Valid.f q k n s = some (validV k n s) := by
  obtain ⟨q, rfl⟩ : ∃ m, q = m + 1 := ⟨q - 1, by omega⟩
  simp only [kind_Valid.f, kind_Valid.j0, valid_is s hs q (by omega), Option.bind_some, validV]
  by_cases h1 : k = 1
  · simp [h1]
  by_cases h2 : k = 2
  · simp [h2]
  by_cases h3 : k = 3
  · by_cases hn : n ≤ 1 <;> simp [h3, hn]
  by_cases h4 : k = 4
  · by_cases hn : n = 0 <;> simp [h4, hn]
  by_cases h5 : k = 5
  · simp [h5]
  simp [h1, h2, h3, h4, h5]
theorem kv_j0 (q : Nat) (k n : Int) (s : ByteArray) (hs : s.size ≤ 140737488351232) (hq : s.size + 11 ≤ q) (b : Bool) (hb : b = false) : stratumlaw04_KindValid.j0 q k n s b = some true := by
  subst hb
  obtain ⟨q, rfl⟩ : ∃ m, q = m + 1 := ⟨q - 1, by omega⟩
  simp only [stratumlaw04_KindValid.j0]
  rw [if_neg (by simp)]
  obtain ⟨b, hb, e⟩ : ∃ b : ByteArray, kind_Name.f k = some b ∧ (b.toList = [] → validV k n s = false) := by
    unfold kind_Name.f validV
    by_cases h1 : k = 1
    · subst h1; exact ⟨_, rfl, by simp [ByteArray.toList_eq]⟩
    by_cases h2 : k = 2
    · subst h2; exact ⟨_, rfl, by simp [ByteArray.toList_eq]⟩
    by_cases h3 : k = 3
    · subst h3; exact ⟨_, rfl, by simp [ByteArray.toList_eq]⟩
    by_cases h4 : k = 4
    · subst h4; exact ⟨_, rfl, by simp [ByteArray.toList_eq]⟩
    by_cases h5 : k = 5
    · subst h5; exact ⟨_, rfl, by simp [ByteArray.toList_eq]⟩
    exact ⟨_, rfl, fun _ => by simp [h1, h2, h3, h4, h5]⟩
  rw [hb, Option.bind_some, kind_valid q k n s hs (by omega), Option.bind_some]
  by_cases h : b.toList = []
  · rw [if_pos h, e h]
    rfl
  · rw [if_neg h]
theorem KindValid : stratumlaw04_KindValid.Pure := by
  intro k n s _ hn hs
  refine ⟨s.size + 30, ?_⟩
  have hv := fun q => kind_valid (s.size + 30) q n s hs (by omega)
  have hu := valid_is s hs (s.size + 30) (by omega)
  have hj := kv_j0 (s.size + 30) k n s hs (by omega)
  simp only [stratumlaw04_KindValid.f, kind_Uint.f, kind_Int.f, kind_Bool.f, kind_Text.f, kind_Bytes.f]
  rw [awake_is _ (by omega), Option.bind_some, if_pos rfl]
  simp only [Option.bind_some, hv, hu]
  have v1 : validV 1 n s = s.toList.isEmpty := by simp [validV]
  have v2 : validV 2 n s = s.toList.isEmpty := by simp [validV]
  have v3 : validV 3 n s = (decide (n ≤ 1) && s.toList.isEmpty) := by simp [validV]
  have v4 : validV 4 n s = ((n == 0) && validB s) := by simp [validV]
  have v5 : validV 5 n s = (n == 0) := by simp [validV]
  simp only [v1, v2, v3, v4, v5]
  have hn2 : decide (n ≤ 1) = decide (n < 2) := by
    by_cases h : n ≤ 1
    · rw [decide_eq_true h, decide_eq_true (by omega)]
    · rw [decide_eq_false h, decide_eq_false (by omega)]
  rw [hn2]
  generalize s.toList.isEmpty = a
  generalize (n == 0) = c
  generalize decide (n < 2) = d
  generalize validB s = e
  cases a <;> cases c <;> cases d <;> cases e <;> simp [hj]
end Go.Proofs.Ytepkmbbeaaljlaa.Pure
