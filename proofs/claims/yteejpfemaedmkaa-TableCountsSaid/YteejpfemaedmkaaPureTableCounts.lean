/- TableCounts: Columns' codes, and Find finds the first of a name. -/
import Derived.Test.YteejpfemaedmkaaSTableCounts
import Derived.Test.YteejpfemaedmkaaPlainTable
import Derived.Test.YteejpfemaedmkaaPlainAwake13
namespace Go.Proofs.Yteejpfemaedmkaa.Pure
set_option linter.unusedSimpArgs false
set_option linter.unusedVariables false
open Go.RowKit Go.Proofs.Yteejpfemaedmkaa.X Go.Proofs.YteejpfemaedmkaaW.PrintWords Go.Proofs.YteejpfemaedmkaaW.PrintLast Go.Proofs.Yteejpfemaedmkaa.Plain
theorem counts_loop (l : List S48) (s : ByteArray) (v : List S45) (n : Nat) (hn : n ≤ l.length) (hl : l.length ≤ 140737488351232)
    (hno : ∀ i (h : i < n), (l[i]'(by omega)).f0.toList ≠ s.toList) (d : Nat) : ∀ (k i : Nat), i ≤ n → n - i = d → d < k → stratumlaw13_TableCounts.l0 k n i l s v = some true := by
  induction d with
  | zero =>
    intro k i h1 h2 h3
    obtain ⟨k, rfl⟩ : ∃ m, k = m + 1 := ⟨k - 1, by omega⟩
    simp only [stratumlaw13_TableCounts.l0]
    rw [if_neg (by omega)]
  | succ d ih =>
    intro k i h1 h2 h3
    obtain ⟨k, rfl⟩ : ∃ m, k = m + 1 := ⟨k - 1, by omega⟩
    simp only [stratumlaw13_TableCounts.l0]
    rw [if_pos (by omega), if_pos (by omega), if_pos (by omega), rd_type l i (by omega), if_neg (hno i (by omega)), w64_succ i (by omega), ih k (i + 1) (by omega) (by omega) (by omega)]
theorem counts_j1 (l : List S48) (v : List S45) (n : Nat) (hn : n < l.length) (hl : l.length ≤ 140737488351232) (k : Nat) (hk : l.length + 5 < k) :
    stratumlaw13_TableCounts.j1 k n false l l[n].f0 v = some true := by
  obtain ⟨k, rfl⟩ : ∃ m, k = m + 1 + 1 := ⟨k - 2, by omega⟩
  simp only [stratumlaw13_TableCounts.j1]
  rw [if_neg (by simp), find_is, Option.bind_some]
  cases hf : l.findIdx? (fun t => t.f0.toList == l[n].f0.toList) with
  | none =>
    rw [List.findIdx?_eq_none_iff] at hf
    have := hf l[n] (List.getElem_mem hn)
    simp at this
  | some j =>
    rw [List.findIdx?_eq_some_iff_getElem] at hf
    obtain ⟨hj, hp, hall⟩ := hf
    have hjn : j ≤ n := by
      by_cases h : n < j
      · exact absurd (by simp) (hall n h)
      · omega
    have hfl : findL l l[n].f0 = (j : Int) := by
      unfold findL
      have : l.findIdx? (fun t => t.f0.toList == l[n].f0.toList) = some j := by
        rw [List.findIdx?_eq_some_iff_getElem]
        exact ⟨hj, hp, hall⟩
      rw [this]
    rw [hfl, if_neg (by omega), if_neg (by omega), if_pos (by omega), if_pos (by omega), rd_type l j hj]
    simp only [stratumlaw13_TableCounts.j2]
    rw [if_neg (by simpa using hp)]
    exact counts_loop l _ v j (by omega) hl (fun i h e => hall i h (by simpa using e)) j (k) 0 (by omega) (by omega) (by omega)
theorem TableCounts : stratumlaw13_TableCounts.PureX := by
  rintro ⟨l⟩ a v hh _ _
  have hs := smallL_of hh
  have hl : l.length ≤ 140737488351232 := by have h1 : l.length * 40 ≤ 140737488351232 := hh.1; omega
  refine ⟨l.length + 200 + 1, ?_⟩
  simp only [stratumlaw13_TableCounts.f]
  rw [awake13 _ (by omega), Option.bind_some, if_pos rfl, columns_is _ l a v hs, Option.bind_some]
  have hj : ∀ b c, b = decide (a < 0 ∨ (l.length : Int) ≤ a) → c = (columnsL l a v).2 → stratumlaw13_TableCounts.j0 (l.length + 200 + 1) a v c b l = some true := by
    intro b c hb hc
    simp only [columnsL] at hc
    simp only [stratumlaw13_TableCounts.j0]
    by_cases h : a < 0 ∨ (l.length : Int) ≤ a
    · rw [if_pos h] at hc
      rw [if_pos (by rw [hb]; exact decide_eq_true h), hc]
      rfl
    · rw [if_neg h] at hc
      rw [if_neg (by rw [hb]; simpa using h), if_pos (by omega), if_pos (by omega)]
      obtain ⟨n, rfl⟩ := Int.eq_ofNat_of_zero_le (show 0 ≤ a by omega)
      have hn : n < l.length := by omega
      rw [rd_type l n hn] at hc ⊢
      by_cases h2 : v < 1 ∨ v > (l[n].f1.length : Int)
      · rw [if_pos h2] at hc
        have hc : c = 132 := hc
        subst hc
        have hx : ((132 : Int) != 132) = false := by decide
        rw [if_neg (by decide : ¬ (132 : Int) = 0), if_neg (by decide : ¬ (132 : Int) = 0), hx]
        by_cases h3 : v ≥ 1
        · rw [if_pos h3, if_neg (by omega)]
          exact counts_j1 l _ n hn hl _ (by omega)
        · rw [if_neg h3]
          exact counts_j1 l _ n hn hl _ (by omega)
      · rw [if_neg h2] at hc
        have hc : c = 0 := hc
        subst hc
        rw [if_pos (by omega), if_pos (by omega), if_pos rfl]
        exact counts_j1 l _ n hn hl _ (by omega)
  by_cases h : a < 0
  · rw [if_pos h]
    exact hj true _ (by simp [h]) rfl
  · rw [if_neg h]
    exact hj _ _ (by simp [h]) rfl
end Go.Proofs.Yteejpfemaedmkaa.Pure
