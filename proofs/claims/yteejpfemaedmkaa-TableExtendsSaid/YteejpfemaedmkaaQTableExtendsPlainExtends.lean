import Derived.Test.YteejpfemaedmkaaQTableExtendsX11
import Derived.Test.YteejpfemaedmkaaQTableExtendsX19
import Derived.Test.YteejpfemaedmkaaQTableExtendsXOpen
import Derived.Test.YteejpfemaedmkaaQTableExtendsPlainTable
namespace Go.Proofs.Yteejpfemaedmkaa.Plain
set_option linter.unusedSimpArgs false
set_option linter.unusedVariables false
open Go.RowKit Go.Proofs.Yteejpfemaedmkaa.X Go.Proofs.YteejpfemaedmkaaW.PrintWords Go.Proofs.YteejpfemaedmkaaW.PrintLast
theorem rd_step (l : List S85) (i : Nat) (h : i < l.length) : rd_T85 l (i : Int) = l[i] := by
  unfold rd_T85
  rw [Int.toNat_natCast, List.getD_eq_getElem?_getD, List.getElem?_eq_getElem h, Option.getD_some]
/-- No place at which p. -/
def allL {α : Type} (p : α → α → Bool) : List α → List α → Bool
  | x :: xs, y :: ys => if p x y = true then false else allL p xs ys
  | _, _ => true
theorem allL_nil {α : Type} (p : α → α → Bool) (l : List α) : allL p [] l = true := by unfold allL; rfl
theorem allL_refl {α : Type} (p : α → α → Bool) (hp : ∀ x, p x x = false) : ∀ l, allL p l l = true
  | [] => allL_nil p []
  | x :: l => by
    unfold allL
    rw [if_neg (by rw [hp]; decide)]
    exact allL_refl p hp l
def neS (a b : S85) : Bool := (!((a.f0) == (b.f0)) || (!((a.f1) == (b.f1)) || (!((a.f2) == (b.f2)) || (!((a.f3) == (b.f3)) || (!(((a.f4).toList) == ((b.f4).toList)) || (!((a.f5) == (b.f5)) || ((!((a.f6.f0) == (b.f6.f0)) || (!((a.f6.f1) == (b.f6.f1)) || (!(((a.f6.f2).toList) == ((b.f6.f2).toList))))))))))))
def neC (a b : S35) : Bool := (!(((a.f0).toList) == ((b.f0).toList)) || (!((a.f1) == (b.f1)) || (!((a.f2) == (b.f2)))))
theorem neS_self (x : S85) : neS x x = false := by simp [neS]
theorem neC_self (x : S35) : neC x x = false := by simp [neC]
theorem equalS_loop (a b : List S85) (hab : a.length = b.length) (hl : a.length ≤ 140737488351232) (d : Nat) : ∀ (k i : Nat), i ≤ a.length → a.length - i = d → d < k →
    api_Step.l0 k a b a.length i = some (allL neS (a.drop i) (b.drop i)) := by
  induction d with
  | zero =>
    intro k i h1 h2 h3
    obtain ⟨k, rfl⟩ : ∃ m, k = m + 1 := ⟨k - 1, by omega⟩
    simp only [api_Step.l0]
    rw [if_neg (by omega), List.drop_eq_nil_of_le (by omega), allL_nil]
  | succ d ih =>
    intro k i h1 h2 h3
    obtain ⟨k, rfl⟩ : ∃ m, k = m + 1 := ⟨k - 1, by omega⟩
    have hi : i < a.length := by omega
    have hi2 : i < b.length := by omega
    simp only [api_Step.l0]
    rw [if_pos (by omega), if_pos (by omega), if_pos (by omega), if_pos (by omega), rd_step a i hi, rd_step b i hi2, List.drop_eq_getElem_cons hi, List.drop_eq_getElem_cons hi2]
    simp only [allL]
    by_cases h : neS a[i] b[i] = true
    · rw [if_pos h]
      exact if_pos h
    · rw [if_neg h]
      refine (if_neg h).trans ?_
      rw [w64_succ i (by omega), ih k (i + 1) (by omega) (by omega) (by omega)]
theorem equalC_loop (a b : List S35) (hab : a.length = b.length) (hl : a.length ≤ 140737488351232) (d : Nat) : ∀ (k i : Nat), i ≤ a.length → a.length - i = d → d < k →
    api_Column_54.l0 k a b a.length i = some (allL neC (a.drop i) (b.drop i)) := by
  induction d with
  | zero =>
    intro k i h1 h2 h3
    obtain ⟨k, rfl⟩ : ∃ m, k = m + 1 := ⟨k - 1, by omega⟩
    simp only [api_Column_54.l0]
    rw [if_neg (by omega), List.drop_eq_nil_of_le (by omega), allL_nil]
  | succ d ih =>
    intro k i h1 h2 h3
    obtain ⟨k, rfl⟩ : ∃ m, k = m + 1 := ⟨k - 1, by omega⟩
    have hi : i < a.length := by omega
    have hi2 : i < b.length := by omega
    simp only [api_Column_54.l0]
    rw [if_pos (by omega), if_pos (by omega), if_pos (by omega), if_pos (by omega), rd_column a i hi, rd_column b i hi2, List.drop_eq_getElem_cons hi, List.drop_eq_getElem_cons hi2]
    simp only [allL]
    by_cases h : neC a[i] b[i] = true
    · rw [if_pos h]
      exact if_pos h
    · rw [if_neg h]
      refine (if_neg h).trans ?_
      rw [w64_succ i (by omega), ih k (i + 1) (by omega) (by omega) (by omega)]
theorem refS_loop (a b : List S85) (hab : a.length = b.length) (hl : a.length ≤ 140737488351232) (d : Nat) : ∀ (k i : Nat), i ≤ a.length → a.length - i = d → d < k →
    stratumref13_steps.l0 k a b i = some (allL neS (a.drop i) (b.drop i)) := by
  induction d with
  | zero =>
    intro k i h1 h2 h3
    obtain ⟨k, rfl⟩ : ∃ m, k = m + 1 := ⟨k - 1, by omega⟩
    simp only [stratumref13_steps.l0]
    rw [if_neg (by omega), List.drop_eq_nil_of_le (by omega), allL_nil]
  | succ d ih =>
    intro k i h1 h2 h3
    obtain ⟨k, rfl⟩ : ∃ m, k = m + 1 := ⟨k - 1, by omega⟩
    have hi : i < a.length := by omega
    have hi2 : i < b.length := by omega
    simp only [stratumref13_steps.l0]
    rw [if_pos (by omega), if_pos (by omega), if_pos (by omega), rd_step a i hi, rd_step b i hi2, List.drop_eq_getElem_cons hi, List.drop_eq_getElem_cons hi2]
    simp only [allL]
    by_cases h : neS a[i] b[i] = true
    · rw [if_pos h]
      exact if_pos h
    · rw [if_neg h]
      refine (if_neg h).trans ?_
      rw [w64_succ i (by omega), ih k (i + 1) (by omega) (by omega) (by omega)]
theorem refC_loop (a b : List S35) (hab : a.length = b.length) (hl : a.length ≤ 140737488351232) (d : Nat) : ∀ (k i : Nat), i ≤ a.length → a.length - i = d → d < k →
    stratumref13_columns.l0 k a b i = some (allL neC (a.drop i) (b.drop i)) := by
  induction d with
  | zero =>
    intro k i h1 h2 h3
    obtain ⟨k, rfl⟩ : ∃ m, k = m + 1 := ⟨k - 1, by omega⟩
    simp only [stratumref13_columns.l0]
    rw [if_neg (by omega), List.drop_eq_nil_of_le (by omega), allL_nil]
  | succ d ih =>
    intro k i h1 h2 h3
    obtain ⟨k, rfl⟩ : ∃ m, k = m + 1 := ⟨k - 1, by omega⟩
    have hi : i < a.length := by omega
    have hi2 : i < b.length := by omega
    simp only [stratumref13_columns.l0]
    rw [if_pos (by omega), if_pos (by omega), if_pos (by omega), rd_column a i hi, rd_column b i hi2, List.drop_eq_getElem_cons hi, List.drop_eq_getElem_cons hi2]
    simp only [allL]
    by_cases h : neC a[i] b[i] = true
    · rw [if_pos h]
      exact if_pos h
    · rw [if_neg h]
      refine (if_neg h).trans ?_
      rw [w64_succ i (by omega), ih k (i + 1) (by omega) (by omega) (by omega)]
def sameS (a b : List S85) : Bool := if (a.length : Int) = (b.length : Int) then allL neS a b else false
def sameC (a b : List S35) : Bool := if (a.length : Int) = (b.length : Int) then allL neC a b else false
theorem equalS_is (k : Nat) (a b : List S85) (hl : a.length ≤ 140737488351232) (hk : a.length < k) : api_Step.f k a b = some (sameS a b) := by
  simp only [api_Step.f, sameS]
  by_cases h : (a.length : Int) = (b.length : Int)
  · rw [if_pos h, if_pos h]
    exact equalS_loop a b (by omega) hl a.length k 0 (by omega) (by omega) hk
  · rw [if_neg h, if_neg h]
theorem equalC_is (k : Nat) (a b : List S35) (hl : a.length ≤ 140737488351232) (hk : a.length < k) : api_Column_54.f k a b = some (sameC a b) := by
  simp only [api_Column_54.f, sameC]
  by_cases h : (a.length : Int) = (b.length : Int)
  · rw [if_pos h, if_pos h]
    exact equalC_loop a b (by omega) hl a.length k 0 (by omega) (by omega) hk
  · rw [if_neg h, if_neg h]
theorem refS_is (k : Nat) (a b : List S85) (hl : a.length ≤ 140737488351232) (hk : a.length < k) : stratumref13_steps.f k a b = some (sameS a b) := by
  simp only [stratumref13_steps.f, sameS]
  by_cases h : (a.length : Int) = (b.length : Int)
  · rw [if_pos h, if_pos h]
    exact refS_loop a b (by omega) hl a.length k 0 (by omega) (by omega) hk
  · rw [if_neg h, if_neg h]
theorem refC_is (k : Nat) (a b : List S35) (hl : a.length ≤ 140737488351232) (hk : a.length < k) : stratumref13_columns.f k a b = some (sameC a b) := by
  simp only [stratumref13_columns.f, sameC]
  by_cases h : (a.length : Int) = (b.length : Int)
  · rw [if_pos h, if_pos h]
    exact refC_loop a b (by omega) hl a.length k 0 (by omega) (by omega) hk
  · rw [if_neg h, if_neg h]
theorem sameS_refl (a : List S85) : sameS a a = true := by
  unfold sameS
  rw [if_pos rfl]
  exact allL_refl neS neS_self a
theorem sameC_refl (a : List S35) : sameC a a = true := by
  unfold sameC
  rw [if_pos rfl]
  exact allL_refl neC neC_self a
def extV : List S45 → List S45 → Bool
  | v :: vs, w :: ws => sameS v.f0 w.f0 && (sameC v.f1 w.f1 && extV vs ws)
  | _, _ => true
theorem extV_nil (l : List S45) : extV [] l = true := by unfold extV; rfl
theorem extV_refl : ∀ l, extV l l = true
  | [] => extV_nil []
  | v :: l => by
    unfold extV
    rw [sameS_refl, sameC_refl, Bool.true_and, Bool.true_and]
    exact extV_refl l
def extT : List S48 → List S48 → Bool
  | s :: ss, t :: ts => if s.f0.toList = t.f0.toList ∧ s.f1.length ≤ t.f1.length ∧ extV s.f1 t.f1 = true then extT ss ts else false
  | _, _ => true
theorem extT_nil (l : List S48) : extT [] l = true := by unfold extT; rfl
theorem extT_refl : ∀ l, extT l l = true
  | [] => extT_nil []
  | s :: l => by
    unfold extT
    rw [if_pos ⟨rfl, Nat.le_refl _, extV_refl _⟩]
    exact extT_refl l
/-- Whether b has all of a. -/
def extH (a b : List S48) : Bool := if (a.length : Int) > (b.length : Int) then false else extT a b
theorem extH_refl (l : List S48) : extH l l = true := by
  unfold extH
  rw [if_neg (by omega)]
  exact extT_refl l
theorem extH_nil (l : List S48) : extH [] l = true := by
  unfold extH
  rw [if_neg (by simp)]
  exact extT_nil l
/-- The rounds that a history takes. -/
def need : List S48 → Nat
  | [] => 1
  | t :: ts => t.f1.length + 3 + need ts
def smallV (l : List S45) : Prop := ∀ v ∈ l, v.f0.length ≤ 140737488351232 ∧ v.f1.length ≤ 140737488351232
def smallT (l : List S48) : Prop := l.length ≤ 140737488351232 ∧ ∀ t ∈ l, t.f1.length ≤ 140737488351232 ∧ smallV t.f1
theorem ext_l1 (x y : List S48) (n : Int) (j : Nat) (s : ByteArray) (a b : List S45) (hab : a.length ≤ b.length) (ha : smallV a) (hl : a.length ≤ 140737488351232) (r : Bool) (M : Nat)
    (hr : ∀ k, 140737488351232 + M < k → table_Extends.l0 k x n ((j + 1 : Nat) : Int) y = some r) (hj : j < 140737488351232) (d : Nat) : ∀ (k i : Nat), i ≤ a.length → a.length - i = d → 140737488351232 + M + 1 + d < k →
    table_Extends.l1 k x n j a a.length i y s b = some (extV (a.drop i) (b.drop i) && r) := by
  induction d with
  | zero =>
    intro k i h1 h2 h3
    obtain ⟨k, rfl⟩ : ∃ m, k = m + 1 := ⟨k - 1, by omega⟩
    simp only [table_Extends.l1]
    rw [if_neg (by omega), List.drop_eq_nil_of_le (by omega), extV_nil, Bool.true_and, w64_succ j hj]
    exact hr k (by omega)
  | succ d ih =>
    intro k i h1 h2 h3
    obtain ⟨k, rfl⟩ : ∃ m, k = m + 1 := ⟨k - 1, by omega⟩
    have hi : i < a.length := by omega
    have hi2 : i < b.length := by omega
    obtain ⟨q1, q2⟩ := ha _ (List.getElem_mem hi)
    simp only [table_Extends.l1]
    rw [if_pos (by omega), if_pos (by omega), if_pos (by omega), if_pos (by omega), rd_version a i hi, rd_version b i hi2, equalS_is k _ _ q1 (by omega), Option.bind_some, List.drop_eq_getElem_cons hi, List.drop_eq_getElem_cons hi2]
    simp only [extV]
    by_cases h : sameS a[i].f0 b[i].f0 = true
    · rw [if_pos h, equalC_is k _ _ q2 (by omega), Option.bind_some, h, Bool.true_and]
      by_cases h' : sameC a[i].f1 b[i].f1 = true
      · rw [if_pos h', w64_succ i (by omega), ih k (i + 1) (by omega) (by omega) (by omega), h', Bool.true_and]
      · rw [if_neg h', Bool.eq_false_iff.2 h', Bool.false_and, Bool.false_and]
    · rw [if_neg h, Bool.eq_false_iff.2 h, Bool.false_and, Bool.false_and]
theorem refext_l1 (x y : List S48) (j : Nat) (s t : ByteArray) (a b : List S45) (hab : a.length ≤ b.length) (ha : smallV a) (hl : a.length ≤ 140737488351232) (r : Bool) (M : Nat)
    (hr : ∀ k, 140737488351232 + M < k → stratumref13_Extends.l0 k ((j + 1 : Nat) : Int) x y = some r) (hj : j < 140737488351232) (d : Nat) : ∀ (k i : Nat), i ≤ a.length → a.length - i = d → 140737488351232 + M + 1 + d < k →
    stratumref13_Extends.l1 k j i x y s a t b = some (extV (a.drop i) (b.drop i) && r) := by
  induction d with
  | zero =>
    intro k i h1 h2 h3
    obtain ⟨k, rfl⟩ : ∃ m, k = m + 1 := ⟨k - 1, by omega⟩
    simp only [stratumref13_Extends.l1]
    rw [if_neg (by omega), List.drop_eq_nil_of_le (by omega), extV_nil, Bool.true_and, w64_succ j hj]
    exact hr k (by omega)
  | succ d ih =>
    intro k i h1 h2 h3
    obtain ⟨k, rfl⟩ : ∃ m, k = m + 1 := ⟨k - 1, by omega⟩
    have hi : i < a.length := by omega
    have hi2 : i < b.length := by omega
    obtain ⟨q1, q2⟩ := ha _ (List.getElem_mem hi)
    simp only [stratumref13_Extends.l1]
    rw [if_pos (by omega), if_pos (by omega), if_pos (by omega), rd_version a i hi, rd_version b i hi2, refS_is k _ _ q1 (by omega), Option.bind_some, List.drop_eq_getElem_cons hi, List.drop_eq_getElem_cons hi2]
    simp only [extV]
    by_cases h : sameS a[i].f0 b[i].f0 = true
    · rw [if_pos h, refC_is k _ _ q2 (by omega), Option.bind_some, h, Bool.true_and]
      by_cases h' : sameC a[i].f1 b[i].f1 = true
      · rw [if_pos h', w64_succ i (by omega), ih k (i + 1) (by omega) (by omega) (by omega), h', Bool.true_and]
      · rw [if_neg h', Bool.eq_false_iff.2 h', Bool.false_and, Bool.false_and]
    · rw [if_neg h, Bool.eq_false_iff.2 h, Bool.false_and, Bool.false_and]
theorem ext_l0 (a b : List S48) (hab : a.length ≤ b.length) (ha : smallT a) (d : Nat) : ∀ (k i : Nat), i ≤ a.length → a.length - i = d → 140737488351232 + need (a.drop i) < k →
    table_Extends.l0 k a a.length i b = some (extT (a.drop i) (b.drop i)) := by
  induction d with
  | zero =>
    intro k i h1 h2 h3
    obtain ⟨k, rfl⟩ : ∃ m, k = m + 1 := ⟨k - 1, by omega⟩
    simp only [table_Extends.l0]
    rw [if_neg (by omega), List.drop_eq_nil_of_le (by omega), extT_nil]
  | succ d ih =>
    intro k i h1 h2 h3
    have hi : i < a.length := by omega
    have hi2 : i < b.length := by omega
    obtain ⟨q1, q2⟩ := ha.2 _ (List.getElem_mem hi)
    have hbig := ha.1
    rw [List.drop_eq_getElem_cons hi] at h3
    simp only [need] at h3
    obtain ⟨k, rfl⟩ : ∃ m, k = m + 1 + 1 := ⟨k - 2, by omega⟩
    simp only [table_Extends.l0]
    rw [if_pos (by omega), if_pos (by omega), if_pos (by omega), if_pos (by omega), rd_type a i hi, rd_type b i hi2, List.drop_eq_getElem_cons hi, List.drop_eq_getElem_cons hi2]
    simp only [extT]
    by_cases h : a[i].f0.toList = b[i].f0.toList
    · rw [if_pos h]
      simp only [table_Extends.j1]
      by_cases h' : a[i].f1.length ≤ b[i].f1.length
      · rw [if_neg (by simpa using h')]
        refine (ext_l1 a b a.length i b[i].f0 a[i].f1 b[i].f1 h' q2 q1 (extT (a.drop (i + 1)) (b.drop (i + 1))) (need (a.drop (i + 1))) (fun k' hk' => ih k' (i + 1) (by omega) (by omega) hk') (by omega) a[i].f1.length k 0 (by omega) (by omega) (by omega)).trans ?_
        rw [List.drop_zero, List.drop_zero]
        by_cases h2 : extV a[i].f1 b[i].f1 = true
        · rw [if_pos ⟨h, h', h2⟩, h2, Bool.true_and]
        · rw [if_neg (fun e => h2 e.2.2), Bool.eq_false_iff.2 h2, Bool.false_and]
      · rw [if_pos (by simpa using h'), if_neg (fun e => h' e.2.1)]
    · rw [if_neg h]
      simp only [table_Extends.j1]
      rw [if_pos trivial, if_neg (fun e => h e.1)]
theorem refext_l0 (a b : List S48) (hab : a.length ≤ b.length) (ha : smallT a) (d : Nat) : ∀ (k i : Nat), i ≤ a.length → a.length - i = d → 140737488351232 + need (a.drop i) < k →
    stratumref13_Extends.l0 k i a b = some (extT (a.drop i) (b.drop i)) := by
  induction d with
  | zero =>
    intro k i h1 h2 h3
    obtain ⟨k, rfl⟩ : ∃ m, k = m + 1 := ⟨k - 1, by omega⟩
    simp only [stratumref13_Extends.l0]
    rw [if_neg (by omega), List.drop_eq_nil_of_le (by omega), extT_nil]
  | succ d ih =>
    intro k i h1 h2 h3
    have hi : i < a.length := by omega
    have hi2 : i < b.length := by omega
    obtain ⟨q1, q2⟩ := ha.2 _ (List.getElem_mem hi)
    have hbig := ha.1
    rw [List.drop_eq_getElem_cons hi] at h3
    simp only [need] at h3
    obtain ⟨k, rfl⟩ : ∃ m, k = m + 1 + 1 := ⟨k - 2, by omega⟩
    simp only [stratumref13_Extends.l0]
    rw [if_pos (by omega), if_pos (by omega), if_pos (by omega), rd_type a i hi, rd_type b i hi2, List.drop_eq_getElem_cons hi, List.drop_eq_getElem_cons hi2]
    simp only [extT]
    by_cases h : a[i].f0.toList = b[i].f0.toList
    · rw [if_pos h]
      simp only [stratumref13_Extends.j1]
      by_cases h' : a[i].f1.length ≤ b[i].f1.length
      · rw [if_neg (by simpa using h')]
        refine (refext_l1 a b i a[i].f0 b[i].f0 a[i].f1 b[i].f1 h' q2 q1 (extT (a.drop (i + 1)) (b.drop (i + 1))) (need (a.drop (i + 1))) (fun k' hk' => ih k' (i + 1) (by omega) (by omega) hk') (by omega) a[i].f1.length k 0 (by omega) (by omega) (by omega)).trans ?_
        rw [List.drop_zero, List.drop_zero]
        by_cases h2 : extV a[i].f1 b[i].f1 = true
        · rw [if_pos ⟨h, h', h2⟩, h2, Bool.true_and]
        · rw [if_neg (fun e => h2 e.2.2), Bool.eq_false_iff.2 h2, Bool.false_and]
      · rw [if_pos (by simpa using h'), if_neg (fun e => h' e.2.1)]
    · rw [if_neg h]
      simp only [stratumref13_Extends.j1]
      rw [if_pos trivial, if_neg (fun e => h e.1)]
theorem extends_is (k : Nat) (a b : List S48) (ha : smallT a) (hk : 140737488351232 + need a < k) : table_Extends.f k a b = some (extH a b) := by
  simp only [table_Extends.f, extH]
  by_cases h : (a.length : Int) > (b.length : Int)
  · rw [if_pos h, if_pos h]
  · rw [if_neg h, if_neg h]
    exact ext_l0 a b (by omega) ha a.length k 0 (by omega) (by omega) hk
theorem ref_extends_is (k : Nat) (a b : List S48) (ha : smallT a) (hk : 140737488351232 + need a < k) : stratumref13_Extends.f k a b = some (extH a b) := by
  simp only [stratumref13_Extends.f, extH]
  by_cases h : (a.length : Int) > (b.length : Int)
  · rw [if_pos h, if_pos h]
  · rw [if_neg h, if_neg h]
    exact refext_l0 a b (by omega) ha a.length k 0 (by omega) (by omega) hk
theorem smallT_of {h : S24} (hw : wfS24 h) : smallT h.f0 := by
  refine ⟨by have := hw.1; omega, fun t ht => ?_⟩
  obtain ⟨_, h2⟩ := hw.2 t ht
  refine ⟨by have := h2.1; omega, fun v hv => ?_⟩
  have h3 := h2.2 v hv
  exact ⟨by have := h3.1.1; omega, by have := h3.2.1; omega⟩
end Go.Proofs.Yteejpfemaedmkaa.Plain
