import Derived.Test.YteejpfemaedmkaaQG2X25
import Derived.Test.YteejpfemaedmkaaQG2X24
import Derived.Test.YteejpfemaedmkaaQG2PlainTlvD
namespace Go.Proofs.Yteejpfemaedmkaa.Plain
set_option linter.unusedSimpArgs false
set_option linter.unusedVariables false
open Go.RowKit Go.Proofs.Yteejpfemaedmkaa.X Go.Proofs.YteejpfemaedmkaaW.PrintWords Go.Proofs.YteejpfemaedmkaaW.PrintLast
theorem lives_100 : stratumlaw05_lives.f 100 = some true := by kernel_rfl
theorem lives_is (k : Nat) (hk : 100 ≤ k) : stratumlaw05_lives.f k = some true := at_rounds (fun k => stratumlaw05_lives.mono k) hk lives_100
theorem heavy_loop (l : List S53) (hl : l.length ≤ 140737488351232) (d : Nat) : ∀ (k i : Nat) (s : Int), i ≤ l.length → l.length - i = d → d < k → ∃ h, stratumlaw05_heavy.l0 k l s (i : Int) = some h := by
  induction d with
  | zero =>
    intro k i s h1 h2 h3
    obtain ⟨k, rfl⟩ : ∃ m, k = m + 1 := ⟨k - 1, by omega⟩
    simp only [stratumlaw05_heavy.l0]
    rw [if_neg (by omega)]
    split <;> exact ⟨_, rfl⟩
  | succ d ih =>
    intro k i s h1 h2 h3
    obtain ⟨k, rfl⟩ : ∃ m, k = m + 1 := ⟨k - 1, by omega⟩
    simp only [stratumlaw05_heavy.l0]
    rw [if_pos (by omega)]
    by_cases c1 : s ≤ 33554432
    · rw [if_pos c1]
      by_cases c2 : (i : Int) ≤ 1048576
      · rw [if_pos c2, if_pos (by omega), w64_succ' i (by omega)]
        exact ih k (i + 1) _ (by omega) (by omega) (by omega)
      · rw [if_neg c2]
        split <;> exact ⟨_, rfl⟩
    · rw [if_neg c1]
      split <;> exact ⟨_, rfl⟩
theorem heavy_is (k : Nat) (l : List S53) (hl : l.length ≤ 140737488351232) (hk : l.length < k) : ∃ h, stratumlaw05_heavy.f k l = some h := heavy_loop l hl l.length k 0 0 (by omega) (by omega) hk
def neF (x y : S53) : Bool := (!((x.f0) == (y.f0)) || ((!((x.f1.f0) == (y.f1.f0)) || (!((x.f1.f1) == (y.f1.f1)) || (!(((x.f1.f2).toList) == ((y.f1.f2).toList)))))))
theorem bytes_eq {s t : ByteArray} (h : s.toList = t.toList) : s = t := by
  have := (toList_inj s t).1 h
  rw [← str_bytesOf s, ← str_bytesOf t, this]
theorem neF_false {x y : S53} : neF x y = false ↔ x = y := by
  refine ⟨fun h => ?_, fun h => by subst h; simp [neF]⟩
  simp only [neF, Bool.or_eq_false_iff, Bool.not_eq_false', beq_iff_eq] at h
  obtain ⟨h1, h2, h3, h4⟩ := h
  obtain ⟨x0, x1, x2, x3⟩ := x
  obtain ⟨y0, y1, y2, y3⟩ := y
  simp only at h1 h2 h3 h4
  have h4 := bytes_eq h4
  subst h1 h2 h3 h4
  rfl
theorem same_field_loop (a b : List S53) (hab : a.length = b.length) (hl : a.length ≤ 140737488351232) (d : Nat) : ∀ (k i : Nat), i ≤ a.length → a.length - i = d → d < k → ∃ r, stratumlaw05_same.l0 k a b (i : Int) = some r ∧ (r = true ↔ a.drop i = b.drop i) := by
  induction d with
  | zero =>
    intro k i h1 h2 h3
    obtain ⟨k, rfl⟩ : ∃ m, k = m + 1 := ⟨k - 1, by omega⟩
    simp only [stratumlaw05_same.l0]
    rw [if_neg (by omega), List.drop_eq_nil_of_le (by omega), List.drop_eq_nil_of_le (by omega)]
    exact ⟨true, rfl, fun _ => rfl, fun _ => rfl⟩
  | succ d ih =>
    intro k i h1 h2 h3
    obtain ⟨k, rfl⟩ : ∃ m, k = m + 1 := ⟨k - 1, by omega⟩
    have hi : i < a.length := by omega
    have hi2 : i < b.length := by omega
    simp only [stratumlaw05_same.l0]
    rw [if_pos (by omega), if_pos (by omega), if_pos (by omega), rd_field a i hi, rd_field b i hi2, List.drop_eq_getElem_cons hi, List.drop_eq_getElem_cons hi2]
    by_cases h : neF a[i] b[i] = true
    · have hne : a[i] ≠ b[i] := fun e => by rw [neF_false.2 e] at h; cases h
      exact ⟨false, if_pos h, fun e => absurd e (by decide), fun e => absurd (List.cons.inj e).1 hne⟩
    · have heq : a[i] = b[i] := neF_false.1 (by simpa using h)
      obtain ⟨r, hr, hr2⟩ := ih k (i + 1) (by omega) (by omega) (by omega)
      refine ⟨r, (if_neg h).trans ?_, ?_⟩
      · rw [w64_succ' i (by omega), hr]
      · rw [hr2, heq]
        exact ⟨fun e => by rw [e], fun e => (List.cons.inj e).2⟩
theorem same_field_is (k : Nat) (a b : List S53) (hl : a.length ≤ 140737488351232) (hk : a.length < k) : ∃ r, stratumlaw05_same.f k a b = some r ∧ (r = true ↔ a = b) := by
  unfold stratumlaw05_same.f
  by_cases h : (a.length : Int) = (b.length : Int)
  · rw [if_pos h]
    have := same_field_loop a b (by omega) hl a.length k 0 (by omega) (by omega) hk
    rw [List.drop_zero, List.drop_zero] at this
    exact this
  · rw [if_neg h]
    exact ⟨false, rfl, fun e => absurd e (by decide), fun e => absurd (congrArg (fun l => (List.length l : Int)) e) h⟩
theorem same_field_self (k : Nat) (a : List S53) (hl : a.length ≤ 140737488351232) (hk : a.length < k) : stratumlaw05_same.f k a a = some true := by
  obtain ⟨r, hr, hr2⟩ := same_field_is k a a hl hk
  rw [hr, hr2.2 rfl]
theorem enc_fits {l : List S53} : l.length ≤ (encL l).length := by
  induction l with
  | nil => simp
  | cons f l ih =>
    have := encF_pos f
    simp only [encL, List.length_append, List.length_cons]
    omega
theorem measure_code (l : List S53) : (measureL l).2.2 = 0 ∨ ((measureL l).2.2 = 1 ∧ (measureL l).1 = 0) ∨ ((measureL l).2.2 = 2 ∧ (measureL l).1 = 0) := by
  unfold measureL
  cases badAt 0 0 l with
  | some j => exact .inr (.inl ⟨rfl, rfl⟩)
  | none =>
    simp only
    by_cases h : ((encL l).length : Int) > 16777215
    · rw [if_pos h]; exact .inr (.inr ⟨rfl, rfl⟩)
    · rw [if_neg h]; exact .inl rfl
end Go.Proofs.Yteejpfemaedmkaa.Plain
