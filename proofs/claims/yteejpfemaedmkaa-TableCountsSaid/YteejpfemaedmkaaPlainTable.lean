import Derived.Test.YteejpfemaedmkaaX4
import Derived.Test.YteejpfemaedmkaaX12
import Derived.Test.YteejpfemaedmkaaXOpen
namespace Go.Proofs.Yteejpfemaedmkaa.Plain
set_option linter.unusedSimpArgs false
set_option linter.unusedVariables false
open Go.RowKit Go.Proofs.Yteejpfemaedmkaa.X Go.Proofs.YteejpfemaedmkaaW.PrintWords Go.Proofs.YteejpfemaedmkaaW.PrintLast
theorem w64_small (x : Int) (h0 : -9223372036854775808 ≤ x) (h : x < 9223372036854775808) : wrap64 x = x := by
  unfold wrap64
  omega
theorem w64_succ (i : Nat) (h : i < 140737488351232) : wrap64 ((i : Int) + 1) = ((i + 1 : Nat) : Int) := by
  rw [w64_small _ (by omega) (by omega)]
  omega
theorem rd_type (l : List S48) (i : Nat) (h : i < l.length) : rd_T48 l (i : Int) = l[i] := by
  unfold rd_T48
  rw [Int.toNat_natCast, List.getD_eq_getElem?_getD, List.getElem?_eq_getElem h, Option.getD_some]
theorem rd_column (l : List S35) (i : Nat) (h : i < l.length) : rd_T35 l (i : Int) = l[i] := by
  unfold rd_T35
  rw [Int.toNat_natCast, List.getD_eq_getElem?_getD, List.getElem?_eq_getElem h, Option.getD_some]
theorem rd_version (l : List S45) (i : Nat) (h : i < l.length) : rd_T45 l (i : Int) = l[i] := by
  unfold rd_T45
  rw [Int.toNat_natCast, List.getD_eq_getElem?_getD, List.getElem?_eq_getElem h, Option.getD_some]
/-- The place of the first type of this name; -1: none. -/
def findL (l : List S48) (s : ByteArray) : Int := match l.findIdx? (fun t => t.f0.toList == s.toList) with | some i => (i : Int) | none => -1
theorem find_is (l : List S48) (s : ByteArray) : table_Find.f l s = some (findL l s) := rfl
theorem ref_find_loop (l : List S48) (s : ByteArray) (hl : l.length ≤ 140737488351232) (d : Nat) : ∀ (k i : Nat), i ≤ l.length → l.length - i = d → d < k →
    stratumref13_Find.l0 k s i l = some (match (l.drop i).findIdx? (fun t => t.f0.toList == s.toList) with | some j => ((i + j : Nat) : Int) | none => -1) := by
  induction d with
  | zero =>
    intro k i h1 h2 h3
    obtain ⟨k, rfl⟩ : ∃ m, k = m + 1 := ⟨k - 1, by omega⟩
    simp only [stratumref13_Find.l0]
    rw [if_neg (by omega), List.drop_eq_nil_of_le (by omega)]
    rfl
  | succ d ih =>
    intro k i h1 h2 h3
    obtain ⟨k, rfl⟩ : ∃ m, k = m + 1 := ⟨k - 1, by omega⟩
    have hi : i < l.length := by omega
    simp only [stratumref13_Find.l0]
    rw [if_pos (by omega), if_pos (by omega), rd_type l i hi, List.drop_eq_getElem_cons hi, List.findIdx?_cons]
    by_cases h : l[i].f0.toList = s.toList
    · rw [if_pos h, if_pos (by simpa using h)]
      rfl
    · rw [if_neg h, if_neg (by simpa using h), w64_succ i (by omega), ih k (i + 1) (by omega) (by omega) (by omega)]
      cases List.findIdx? (fun t => t.f0.toList == s.toList) (List.drop (i + 1) l) with
      | none => rfl
      | some j =>
        simp only [Option.map_some]
        rw [Nat.add_assoc, Nat.add_comm 1 j]
theorem ref_find_is (k : Nat) (l : List S48) (s : ByteArray) (hl : l.length ≤ 140737488351232) (hk : l.length < k) : stratumref13_Find.f k l s = some (findL l s) := by
  have h := ref_find_loop l s hl l.length k 0 (by omega) (by omega) hk
  rw [List.drop_zero] at h
  unfold stratumref13_Find.f findL
  refine h.trans ?_
  cases List.findIdx? (fun t => t.f0.toList == s.toList) l with
  | none => rfl
  | some j => simp
/-- A version's columns. -/
def columnsL (l : List S48) (a v : Int) : List S35 × Int :=
  if a < 0 ∨ (l.length : Int) ≤ a then ([], 131) else if v < 1 ∨ v > ((rd_T48 l a).f1.length : Int) then ([], 132) else ((rd_T45 (rd_T48 l a).f1 (v - 1)).f1, 0)
def smallL (l : List S48) : Prop := ∀ t ∈ l, t.f1.length ≤ 140737488351232 ∧ ∀ v ∈ t.f1, v.f1.length < 4398046511104
theorem version_small {l : List S48} (hs : smallL l) (a v : Int) (h : ¬ (a < 0 ∨ (l.length : Int) ≤ a)) (h2 : ¬ (v < 1 ∨ v > ((rd_T48 l a).f1.length : Int))) :
    (rd_T48 l a).f1.length ≤ 140737488351232 ∧ (rd_T45 (rd_T48 l a).f1 (v - 1)).f1.length < 4398046511104 := by
  obtain ⟨n, rfl⟩ := Int.eq_ofNat_of_zero_le (show 0 ≤ a by omega)
  have hn : n < l.length := by omega
  rw [rd_type l n hn] at h2 ⊢
  obtain ⟨m, hm⟩ := Int.eq_ofNat_of_zero_le (show 0 ≤ v - 1 by omega)
  rw [hm, rd_version _ m (by omega)]
  have := hs l[n] (List.getElem_mem hn)
  exact ⟨this.1, this.2 _ (List.getElem_mem _)⟩
theorem columns_is (k : Nat) (l : List S48) (a v : Int) (hs : smallL l) : table_Columns.f (k + 1) l a v = some (columnsL l a v) := by
  have hj : ∀ b, b = decide (a < 0 ∨ (l.length : Int) ≤ a) → table_Columns.j0 (k + 1) a v b l = some (columnsL l a v) := by
    intro b hb
    simp only [table_Columns.j0, columnsL]
    by_cases h : a < 0 ∨ (l.length : Int) ≤ a
    · rw [if_pos (by rw [hb]; exact decide_eq_true h), if_pos h]
    · rw [if_neg (by rw [hb]; simpa using h), if_neg h, if_pos (by omega), if_pos (by omega)]
      by_cases h2 : v < 1 ∨ v > ((rd_T48 l a).f1.length : Int)
      · rw [if_pos h2]
        rcases h2 with h2 | h2
        · rw [if_pos h2]
        · by_cases h3 : v < 1
          · rw [if_pos h3]
          · rw [if_neg h3, if_pos h2]
      · obtain ⟨s1, s2⟩ := version_small hs a v h h2
        rw [if_neg h2, if_neg (by omega), if_neg (by omega), w64_small _ (by omega) (by omega), if_pos (by omega), if_pos (by omega)]
        simp only [api_Column_51.f]
        rw [if_pos s2, Option.bind_some]
  unfold table_Columns.f
  by_cases h : a < 0
  · rw [if_pos h]
    exact hj true (by simp [h])
  · rw [if_neg h]
    exact hj _ (by simp [h])
theorem ref_columns_is (k : Nat) (l : List S48) (a v : Int) (hs : smallL l) : stratumref13_Columns.f (k + 1) l a v = some (columnsL l a v) := by
  have hj : ∀ b, b = decide (a < 0 ∨ (l.length : Int) ≤ a) → stratumref13_Columns.j0 (k + 1) a v b l = some (columnsL l a v) := by
    intro b hb
    simp only [stratumref13_Columns.j0, columnsL]
    by_cases h : a < 0 ∨ (l.length : Int) ≤ a
    · rw [if_pos (by rw [hb]; exact decide_eq_true h), if_pos h]
    · rw [if_neg (by rw [hb]; simpa using h), if_neg h, if_pos (by omega), if_pos (by omega)]
      by_cases h2 : v < 1 ∨ v > ((rd_T48 l a).f1.length : Int)
      · rw [if_pos h2]
        rcases h2 with h2 | h2
        · rw [if_pos h2]
        · by_cases h3 : v < 1
          · rw [if_pos h3]
          · rw [if_neg h3, if_pos h2]
      · obtain ⟨s1, s2⟩ := version_small hs a v h h2
        rw [if_neg h2, if_neg (by omega), if_neg (by omega), Option.bind_some, w64_small _ (by omega) (by omega), if_pos (by omega), if_pos (by omega), if_pos (by simpa using s2)]
        rfl
  unfold stratumref13_Columns.f
  by_cases h : a < 0
  · rw [if_pos h]
    exact hj true (by simp [h])
  · rw [if_neg h]
    exact hj _ (by simp [h])
/-- The column of a name. -/
def columnL : List S35 → ByteArray → ByteArray × Int × Int × Bool
  | [], _ => (⟨#[]⟩, 0, 0, false)
  | c :: l, s => if c.f0.toList = s.toList then (c.f0, c.f1, c.f2, true) else columnL l s
theorem column_loop (l : List S35) (s : ByteArray) (hl : l.length ≤ 140737488351232) (d : Nat) : ∀ (k i : Nat), i ≤ l.length → l.length - i = d → d < k → table_Column.l0 k s l l.length i = some (columnL (l.drop i) s) := by
  induction d with
  | zero =>
    intro k i h1 h2 h3
    obtain ⟨k, rfl⟩ : ∃ m, k = m + 1 := ⟨k - 1, by omega⟩
    simp only [table_Column.l0]
    rw [if_neg (by omega), List.drop_eq_nil_of_le (by omega)]
    rfl
  | succ d ih =>
    intro k i h1 h2 h3
    obtain ⟨k, rfl⟩ : ∃ m, k = m + 1 := ⟨k - 1, by omega⟩
    have hi : i < l.length := by omega
    simp only [table_Column.l0]
    rw [if_pos (by omega), if_pos (by omega), if_pos (by omega), rd_column l i hi, List.drop_eq_getElem_cons hi]
    simp only [columnL]
    by_cases h : l[i].f0.toList = s.toList
    · rw [if_pos h, if_pos h]
    · rw [if_neg h, if_neg h, w64_succ i (by omega), ih k (i + 1) (by omega) (by omega) (by omega)]
theorem column_is (k : Nat) (l : List S35) (s : ByteArray) (hl : l.length ≤ 140737488351232) (hk : l.length < k) : table_Column.f k l s = some (columnL l s) :=
  column_loop l s hl l.length k 0 (by omega) (by omega) hk
theorem ref_column_loop (l : List S35) (s : ByteArray) (hl : l.length ≤ 140737488351232) (d : Nat) : ∀ (k i : Nat), i ≤ l.length → l.length - i = d → d < k → stratumref13_Column.l0 k l s i = some (columnL (l.drop i) s) := by
  induction d with
  | zero =>
    intro k i h1 h2 h3
    obtain ⟨k, rfl⟩ : ∃ m, k = m + 1 := ⟨k - 1, by omega⟩
    simp only [stratumref13_Column.l0]
    rw [if_neg (by omega), List.drop_eq_nil_of_le (by omega)]
    rfl
  | succ d ih =>
    intro k i h1 h2 h3
    obtain ⟨k, rfl⟩ : ∃ m, k = m + 1 := ⟨k - 1, by omega⟩
    have hi : i < l.length := by omega
    simp only [stratumref13_Column.l0]
    rw [if_pos (by omega), if_pos (by omega), rd_column l i hi, List.drop_eq_getElem_cons hi]
    simp only [columnL]
    by_cases h : l[i].f0.toList = s.toList
    · rw [if_pos h, if_pos h]
    · rw [if_neg h, if_neg h, w64_succ i (by omega), ih k (i + 1) (by omega) (by omega) (by omega)]
theorem ref_column_is (k : Nat) (l : List S35) (s : ByteArray) (hl : l.length ≤ 140737488351232) (hk : l.length < k) : stratumref13_Column.f k l s = some (columnL l s) :=
  ref_column_loop l s hl l.length k 0 (by omega) (by omega) hk
theorem same_loop (l : List S35) (hl : l.length ≤ 140737488351232) (d : Nat) : ∀ (k i : Nat), i ≤ l.length → l.length - i = d → d < k → stratumlaw13_same.l0 k l l i = some true := by
  induction d with
  | zero =>
    intro k i h1 h2 h3
    obtain ⟨k, rfl⟩ : ∃ m, k = m + 1 := ⟨k - 1, by omega⟩
    simp only [stratumlaw13_same.l0]
    rw [if_neg (by omega)]
  | succ d ih =>
    intro k i h1 h2 h3
    obtain ⟨k, rfl⟩ : ∃ m, k = m + 1 := ⟨k - 1, by omega⟩
    simp only [stratumlaw13_same.l0]
    rw [if_pos (by omega), if_pos (by omega), if_pos (by omega), if_neg (by simp), w64_succ i (by omega), ih k (i + 1) (by omega) (by omega) (by omega)]
theorem same_is (k : Nat) (l : List S35) (hl : l.length ≤ 140737488351232) (hk : l.length < k) : stratumlaw13_same.f k l l = some true := by
  unfold stratumlaw13_same.f
  rw [if_pos rfl]
  exact same_loop l hl l.length k 0 (by omega) (by omega) hk
theorem smallL_of {h : S24} (hw : wfS24 h) : smallL h.f0 := by
  intro t ht
  obtain ⟨_, h2⟩ := hw.2 t ht
  refine ⟨by have := h2.1; omega, fun v hv => ?_⟩
  have := (h2.2 v hv).2.1
  omega
theorem columns_small (l : List S48) (a v : Int) (hs : smallL l) : (columnsL l a v).1.length < 4398046511104 := by
  unfold columnsL
  by_cases h : a < 0 ∨ (l.length : Int) ≤ a
  · rw [if_pos h]
    simp
  · rw [if_neg h]
    by_cases h2 : v < 1 ∨ v > ((rd_T48 l a).f1.length : Int)
    · rw [if_pos h2]
      simp
    · rw [if_neg h2]
      exact (version_small hs a v h h2).2
end Go.Proofs.Yteejpfemaedmkaa.Plain
