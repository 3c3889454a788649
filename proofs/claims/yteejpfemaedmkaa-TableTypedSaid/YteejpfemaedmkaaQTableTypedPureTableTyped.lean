/- TableTyped: Typed is the document's, for every raw columns and record. -/
import Derived.Test.YteejpfemaedmkaaQTableTypedX9
import Derived.Test.YteejpfemaedmkaaQTableTypedX17
import Derived.Test.YteejpfemaedmkaaQTableTypedSTableTyped
import Derived.Test.YteejpfemaedmkaaQTableTypedPlainTlvP
import Derived.Test.YteejpfemaedmkaaQTableTypedPlainTlvR
import Derived.Test.YteejpfemaedmkaaQTableTypedPlainAwake13
import Derived.Test.YteejpfemaedmkaaQTableTypedPlainTable
namespace Go.Proofs.Yteejpfemaedmkaa.Plain
set_option linter.unusedSimpArgs false
set_option linter.unusedVariables false
open Go.RowKit Go.Proofs.Yteejpfemaedmkaa.X Go.Proofs.YteejpfemaedmkaaW.PrintWords Go.Proofs.YteejpfemaedmkaaW.PrintLast
/-- Of the columns' tags and kinds, and valid. -/
def matchL : List S35 → List S53 → Bool
  | c :: cs, f :: fs => decide (f.f0 = c.f1) && (decide (f.f1.f0 = c.f2) && (validV f.f1.f0 f.f1.f1 f.f1.f2 && matchL cs fs))
  | _, _ => true
theorem matchL_cons (c : S35) (cs : List S35) (f : S53) (fs : List S53) :
    matchL (c :: cs) (f :: fs) = (decide (f.f0 = c.f1) && (decide (f.f1.f0 = c.f2) && (validV f.f1.f0 f.f1.f1 f.f1.f2 && matchL cs fs))) := by
  conv => lhs; unfold matchL
def codeT (l : List S53) : Int := if (measureL l).2.2 = 0 then 0 else if (measureL l).2.2 = 2 then 2 else 130
def typedL (c : List S35) (l : List S53) : Int := if (l.length : Int) = (c.length : Int) then (if matchL c l = true then codeT l else 130) else 130
theorem typed_loop (c : List S35) (l : List S53) (hs : ∀ f ∈ l, smallF f) (hl : l.length ≤ 140737488351232) (hc : l.length = c.length) (d : Nat) : ∀ (k i : Nat), i ≤ l.length → l.length - i = d → 140737488351300 + 2 * l.length + d + 1 < k →
    table_Typed.l0 k c l l (l.length : Int) (i : Int) = some (if matchL (c.drop i) (l.drop i) = true then codeT l else 130) := by
  induction d with
  | zero =>
    intro k i h1 h2 h3
    obtain ⟨k, rfl⟩ : ∃ m, k = m + 1 := ⟨k - 1, by omega⟩
    simp only [table_Typed.l0]
    rw [if_neg (by omega), List.drop_eq_nil_of_le (by omega), List.drop_eq_nil_of_le (by omega), check_is k l hs hl (by omega), Option.bind_some, if_pos (show matchL [] [] = true by unfold matchL; rfl)]
    unfold codeT
    by_cases h0 : (measureL l).2.2 = 0
    · rw [if_pos h0, if_pos h0]
    · rw [if_neg h0, if_neg h0]
      by_cases h0 : (measureL l).2.2 = 2
      · rw [if_pos h0, if_pos h0]
      · rw [if_neg h0, if_neg h0]
  | succ d ih =>
    intro k i h1 h2 h3
    obtain ⟨k, rfl⟩ : ∃ m, k = m + 1 := ⟨k - 1, by omega⟩
    have hi : i < l.length := by omega
    have hi2 : i < c.length := by omega
    obtain ⟨g0, g1, g2⟩ := hs _ (List.getElem_mem hi)
    have hv : kind_Valid.f k l[i].f1.f0 l[i].f1.f1 l[i].f1.f2 = some (validV l[i].f1.f0 l[i].f1.f1 l[i].f1.f2) := kind_valid _ _ _ _ g2 (by omega)
    simp only [table_Typed.l0]
    rw [if_pos (by omega), if_pos (by omega), if_pos (by omega), if_pos (by omega), rd_field l i hi, rd_column c i hi2, List.drop_eq_getElem_cons hi, List.drop_eq_getElem_cons hi2, matchL_cons]
    by_cases c1 : l[i].f0 = c[i].f1
    · rw [if_pos c1, decide_eq_true c1, Bool.true_and]
      by_cases c2 : l[i].f1.f0 = c[i].f2
      · rw [if_pos c2, decide_eq_true c2, Bool.true_and, hv, Option.bind_some]
        cases validV l[i].f1.f0 l[i].f1.f1 l[i].f1.f2 with
        | true => rw [if_pos rfl, Bool.true_and, w64_succ i (by omega), ih k (i + 1) (by omega) (by omega) (by omega)]
        | false => rw [if_neg (by decide), Bool.false_and, if_neg (by decide)]
      · rw [if_neg c2, decide_eq_false c2, Bool.false_and, if_neg (by decide)]
    · rw [if_neg c1, decide_eq_false c1, Bool.false_and, if_neg (by decide)]
theorem typed_is (k : Nat) (c : List S35) (l : List S53) (hs : ∀ f ∈ l, smallF f) (hl : l.length ≤ 140737488351232) (hk : 140737488351300 + 3 * l.length + 1 < k) : table_Typed.f k c l = some (typedL c l) := by
  unfold table_Typed.f typedL
  by_cases h : (l.length : Int) = (c.length : Int)
  · rw [if_pos h, if_pos h]
    exact typed_loop c l hs hl (by omega) l.length k 0 (by omega) (by omega) (by omega)
  · rw [if_neg h, if_neg h]
end Go.Proofs.Yteejpfemaedmkaa.Plain
namespace Go.Proofs.Yteejpfemaedmkaa.Pure
set_option linter.unusedSimpArgs false
set_option linter.unusedVariables false
open Go.RowKit Go.Proofs.Yteejpfemaedmkaa.X Go.Proofs.YteejpfemaedmkaaW.PrintWords Go.Proofs.YteejpfemaedmkaaW.PrintLast Go.Proofs.Yteejpfemaedmkaa.Plain
theorem ref_typed_loop (c : List S35) (l : List S53) (hs : ∀ f ∈ l, smallF f) (hl : l.length ≤ 140737488351232) (hc : l.length = c.length) (d : Nat) : ∀ (k i : Nat) (last : Int), i ≤ l.length → l.length - i = d → 140737488351300 + 2 * l.length + 3 * d + 1 < k →
    (i = 0 ∧ last = 0 ∨ 0 < i ∧ (rd_T53 l ((i : Int) - 1)).f0 = last) → badAt 0 0 l = badAt i last (l.drop i) →
    stratumref13_Typed.l0 k c l (i : Int) = some (if matchL (c.drop i) (l.drop i) = true then codeT l else 130) := by
  induction d with
  | zero =>
    intro k i last h1 h2 h3 h4 h5
    obtain ⟨k, rfl⟩ : ∃ m, k = m + 1 := ⟨k - 1, by omega⟩
    rw [List.drop_eq_nil_of_le (by omega)] at h5
    simp only [badAt] at h5
    simp only [stratumref13_Typed.l0]
    rw [if_neg (by omega), List.drop_eq_nil_of_le (by omega), List.drop_eq_nil_of_le (by omega), ref_check_is k l hs hl (by omega), Option.bind_some, if_pos (show matchL [] [] = true by unfold matchL; rfl)]
    unfold codeT measureL
    rw [h5]
    by_cases hb : ((encL l).length : Int) > 16777215
    · simp [if_pos hb]
    · simp [if_neg hb]
  | succ d ih =>
    intro k i last h1 h2 h3 h4 h5
    obtain ⟨k, rfl⟩ : ∃ m, k = m + 1 + 1 + 1 := ⟨k - 3, by omega⟩
    have hi : i < l.length := by omega
    have hi2 : i < c.length := by omega
    obtain ⟨g0, g1, g2⟩ := hs _ (List.getElem_mem hi)
    have hv : stratumref04_Valid.f (k + 1) l[i].f1.f0 l[i].f1.f1 l[i].f1.f2 = some (validV l[i].f1.f0 l[i].f1.f1 l[i].f1.f2) := ref_valid _ _ _ _ g2 (by omega)
    have hbad : okB last l[i] = false → codeT l = 130 := by
      intro ho
      rw [List.drop_eq_getElem_cons hi] at h5
      unfold badAt at h5
      rw [ho, if_neg (by decide)] at h5
      unfold codeT measureL
      have h5 : badAt 0 0 l = some (i : Int) := by
        conv => lhs; unfold badAt
        exact h5
      rw [h5]
      rfl
    have hj : ∀ b, b = (decide (1 ≤ l[i].f0) && (decide (l[i].f0 ≤ 65535) && decide (last < l[i].f0))) → stratumref13_Typed.j1 (k + 1 + 1) c l (i : Int) b l[i].f0 l[i].f1.f0 l[i].f1.f1 l[i].f1.f2 = some (if matchL (c.drop i) (l.drop i) = true then codeT l else 130) := by
      intro b hb
      simp only [stratumref13_Typed.j1, stratumref13_Typed.j2]
      rw [List.drop_eq_getElem_cons hi, List.drop_eq_getElem_cons hi2, matchL_cons]
      cases b with
      | false =>
        rw [if_neg (by decide), if_pos trivial, hbad (by simp only [okB]; rw [← Bool.and_assoc, ← Bool.and_assoc, Bool.and_assoc (decide (1 ≤ l[i].f0)), ← hb, Bool.false_and])]
        split <;> rfl
      | true =>
        rw [if_pos rfl, if_pos (by omega), if_pos (by omega), rd_column c i hi2]
        by_cases c1 : l[i].f0 = c[i].f1
        · rw [if_pos c1, decide_eq_true c1, Bool.true_and]
          by_cases c2 : l[i].f1.f0 = c[i].f2
          · rw [if_pos c2, decide_eq_true c2, Bool.true_and, hv, Option.bind_some]
            cases hvv : validV l[i].f1.f0 l[i].f1.f1 l[i].f1.f2 with
            | true =>
              have ho : okB last l[i] = true := by
                simp only [okB]
                rw [hvv, Bool.and_true, ← hb]
              rw [if_neg (by decide), Bool.true_and, w64_succ i (by omega), ih k (i + 1) l[i].f0 (by omega) (by omega) (by omega) (.inr ⟨by omega, by rw [show ((i + 1 : Nat) : Int) - 1 = (i : Int) by omega, rd_field l i hi]⟩) ?_]
              rw [h5, List.drop_eq_getElem_cons hi]
              conv => lhs; unfold badAt
              rw [ho, if_pos rfl]
              rfl
            | false => rw [if_pos (show (!false) = true from rfl), Bool.false_and, if_neg (by decide)]
          · rw [if_neg c2, decide_eq_false c2, Bool.false_and, if_pos trivial, if_neg (by decide)]
        · rw [if_neg c1, decide_eq_false c1, Bool.false_and, if_pos trivial, if_neg (by decide)]
    have hj := hj
    simp only [stratumref13_Typed.l0]
    rw [if_pos (by omega), if_pos (by omega), rd_field l i hi]
    by_cases c1 : l[i].f0 ≥ 1
    · rw [if_pos c1]
      by_cases c2 : l[i].f0 ≤ 65535
      · rw [if_pos c2]
        by_cases c3 : (i : Int) = 0
        · rw [if_pos c3]
          have h4 : last = 0 := by omega
          exact hj true (by rw [decide_eq_true (show 1 ≤ l[i].f0 by omega), decide_eq_true c2, decide_eq_true (show last < l[i].f0 by omega)]; rfl)
        · have h4 : (rd_T53 l ((i : Int) - 1)).f0 = last := by omega
          rw [if_neg c3, w64_small ((i : Int) - 1) (by omega) (by omega), if_pos (by omega), if_pos (by omega), h4]
          exact hj _ (by rw [decide_eq_true (show 1 ≤ l[i].f0 by omega), decide_eq_true c2]; rfl)
      · rw [if_neg c2]
        exact hj false (by rw [decide_eq_false c2, Bool.false_and, Bool.and_false])
    · rw [if_neg c1]
      exact hj false (by rw [decide_eq_false (show ¬ 1 ≤ l[i].f0 by omega), Bool.false_and])
theorem ref_typed_is (k : Nat) (c : List S35) (l : List S53) (hs : ∀ f ∈ l, smallF f) (hl : l.length ≤ 140737488351232) (hk : 140737488351300 + 5 * l.length + 1 < k) : stratumref13_Typed.f k c l = some (typedL c l) := by
  unfold stratumref13_Typed.f typedL
  by_cases h : (l.length : Int) = (c.length : Int)
  · rw [if_pos h.symm, if_pos h]
    have := ref_typed_loop c l hs hl (by omega) l.length k 0 0 (by omega) (by omega) (by omega) (.inl ⟨rfl, rfl⟩) (by rw [List.drop_zero]; rfl)
    rw [List.drop_zero, List.drop_zero] at this
    exact this
  · rw [if_neg (fun e => h e.symm), if_neg h]
theorem TableTyped : stratumlaw13_TableTyped.PureX := by
  intro c l hc hl
  have hs : ∀ f ∈ l, smallF f := fun f hf => smallF_of (hl.2 f hf)
  have h1 : l.length ≤ 140737488351232 := by have h1 := hl.1; omega
  refine ⟨140737488351300 + 5 * l.length + 200, ?_⟩
  simp only [stratumlaw13_TableTyped.f]
  rw [awake13 _ (by omega), Option.bind_some, if_pos rfl, typed_is _ c l hs h1 (by omega), Option.bind_some, ref_typed_is _ c l hs h1 (by omega), Option.bind_some]
  simp
end Go.Proofs.Yteejpfemaedmkaa.Pure
