/- KindExact: Valid of every raw value and Order of every two are the document's, for every list of raw values. -/
import Derived.Test.YtepkmbbeaaljlaaX8
import Derived.Test.YtepkmbbeaaljlaaSKindExact
import Derived.Test.YtepkmbbeaaljlaaPlainAwake
import Derived.Test.YtepkmbbeaaljlaaPlainValidRef
namespace Go.Proofs.Ytepkmbbeaaljlaa.Pure
set_option linter.unusedSimpArgs false
open Go.RowKit Go.Proofs.Ytepkmbbeaaljlaa.X Go.Proofs.YtepkmbbeaaljlaaW.PrintWords Go.Proofs.YtepkmbbeaaljlaaW.PrintLast Go.Proofs.Ytepkmbbeaaljlaa.Plain
def ltI : List Int → List Int → Bool
  | _, [] => false
  | [], _ :: _ => true
  | a :: x, b :: y => decide (a < b) || (a == b && ltI x y)
theorem ltI_bytes : ∀ a b : List UInt8, ltI (a.map fun x => (x.toNat : Int)) (b.map fun x => (x.toNat : Int)) = Op.bytesLess a b
  | [], [] => rfl
  | _ :: _, [] => rfl
  | [], _ :: _ => rfl
  | a :: x, b :: y => by
    simp only [List.map_cons, ltI, Op.bytesLess, ltI_bytes x y]
    congr 1
    · rw [Bool.eq_iff_iff]
      simp [UInt8.lt_iff_toNat_lt]
    · congr 1
      rw [Bool.eq_iff_iff]
      simp only [beq_iff_eq]
      exact ⟨fun h => UInt8.toNat_inj.1 (by omega), fun h => by rw [h]⟩
theorem ltI_drop (a b : List Int) (i : Nat) (h : a.take i = b.take i) (hi : i ≤ a.length) (hj : i ≤ b.length) : ltI a b = ltI (a.drop i) (b.drop i) := by
  induction i generalizing a b with
  | zero => rfl
  | succ i ih =>
    rcases a with _ | ⟨x, a⟩
    · simp at hi
    · rcases b with _ | ⟨y, b⟩
      · simp at hj
      · simp only [List.take_succ_cons, List.cons.injEq] at h
        obtain ⟨rfl, h⟩ := h
        simp only [ltI, List.drop_succ_cons, Int.lt_irrefl, decide_false, Bool.false_or, beq_self_eq_true, Bool.true_and]
        exact ih a b h (by simpa using hi) (by simpa using hj)
theorem less_loop (s t : ByteArray) (hs : s.size ≤ 140737488351232) (d : Nat) : ∀ (k i : Nat), i ≤ s.size → i ≤ t.size → s.size - i ≤ d → 2 * d + 2 < k → stratumref04_Less.l0 k s t i = some (ltI ((bytesOf s).drop i) ((bytesOf t).drop i)) := by
  have hs1 := size_bytes s
  have ht1 := size_bytes t
  induction d with
  | zero =>
    intro k i h1 h2 h3 h4
    obtain ⟨k, rfl⟩ : ∃ m, k = m + 2 := ⟨k - 2, by omega⟩
    simp only [stratumref04_Less.l0]
    rw [if_neg (by omega)]
    simp only [stratumref04_Less.j1]
    rw [if_neg (by simp), List.drop_eq_nil_of_le (show (bytesOf s).length ≤ i by omega)]
    by_cases h : i < t.size
    · have : ((bytesOf t).drop i).length ≠ 0 := by rw [List.length_drop]; omega
      rcases hd : (bytesOf t).drop i with _ | ⟨b, r⟩
      · rw [hd] at this; simp at this
      · simp only [ltI]
        rw [decide_eq_true (by omega)]
    · rw [List.drop_eq_nil_of_le (show (bytesOf t).length ≤ i by omega)]
      simp only [ltI]
      rw [decide_eq_false (by omega)]
  | succ d ih =>
    intro k i h1 h2 h3 h4
    obtain ⟨k, rfl⟩ : ∃ m, k = m + 2 := ⟨k - 2, by omega⟩
    simp only [stratumref04_Less.l0]
    by_cases c1 : i < s.size
    · rw [if_pos (by omega)]
      by_cases c2 : i < t.size
      · rw [decide_eq_true (by omega)]
        simp only [stratumref04_Less.j1]
        rw [if_pos trivial, if_pos (by omega), if_pos (by omega), if_pos (by omega), bt_list, bt_list, List.getD_eq_getElem?_getD, List.getD_eq_getElem?_getD, List.getElem?_eq_getElem (show i < (bytesOf s).length by omega), List.getElem?_eq_getElem (show i < (bytesOf t).length by omega), Option.getD_some, Option.getD_some]
        rw [List.drop_eq_getElem_cons (show i < (bytesOf s).length by omega), List.drop_eq_getElem_cons (show i < (bytesOf t).length by omega)]
        simp only [ltI]
        by_cases e : (bytesOf s)[i] = (bytesOf t)[i]
        · rw [if_pos e, w64_small _ (by omega) (by omega), show (i : Int) + 1 = ((i + 1 : Nat) : Int) by omega, ih k (i + 1) (by omega) (by omega) (by omega) (by omega), e]
          simp
        · rw [if_neg e]
          simp [e]
      · rw [decide_eq_false (by omega)]
        simp only [stratumref04_Less.j1]
        rw [if_neg (by simp), List.drop_eq_nil_of_le (show (bytesOf t).length ≤ i by omega)]
        have : ((bytesOf s).drop i).length ≠ 0 := by rw [List.length_drop]; omega
        rw [decide_eq_false (by omega)]
        rcases hd : (bytesOf s).drop i with _ | ⟨b, r⟩ <;> rfl
    · rw [if_neg (by omega)]
      simp only [stratumref04_Less.j1]
      rw [if_neg (by simp), List.drop_eq_nil_of_le (show (bytesOf s).length ≤ i by omega)]
      by_cases h : i < t.size
      · have : ((bytesOf t).drop i).length ≠ 0 := by rw [List.length_drop]; omega
        rcases hd : (bytesOf t).drop i with _ | ⟨b, r⟩
        · rw [hd] at this; simp at this
        · simp only [ltI]
          rw [decide_eq_true (by omega)]
      · rw [List.drop_eq_nil_of_le (show (bytesOf t).length ≤ i by omega)]
        simp only [ltI]
        rw [decide_eq_false (by omega)]
theorem less_is (s t : ByteArray) (hs : s.size ≤ 140737488351232) (k : Nat) (hk : 2 * s.size + 3 ≤ k) : stratumref04_Less.f k s t = some (Op.bytesLess s.toList t.toList) := by
  have h := less_loop s t hs s.size k 0 (by omega) (by omega) (by omega) (by omega)
  rw [List.drop_zero, List.drop_zero, bytesOf_toList, bytesOf_toList, ltI_bytes] at h
  exact h
theorem ref_order (k : Nat) (ak an : Int) (sa : ByteArray) (bk bn : Int) (sb : ByteArray) (hs : sa.size ≤ 140737488351232) (hk : 2 * sa.size + 6 ≤ k) (ha : 0 ≤ an ∧ an < 18446744073709551616) (hb : 0 ≤ bn ∧ bn < 18446744073709551616) :
    stratumref04_Order.f k ak an sa bk bn sb = some (ordV ak an sa.toList bk bn sb.toList) := by
  obtain ⟨k, rfl⟩ : ∃ m, k = m + 3 := ⟨k - 3, by omega⟩
  have uw : ∀ x : Int, IntKind.u64.wrap x = x % 18446744073709551616 := fun x => by simp [IntKind.wrap, IntKind.bits, IntKind.signed]
  have hI := ordI_or ak bk
  -- the numbers as the reference moves them
  have core : ∀ x y : Int, (∀ h : ak = bk, (x < y ↔ ordN ak an bn = -1) ∧ (x = y ↔ ordN ak an bn = 0)) → stratumref04_Order.j1 (k + 2) x y ak an sa bk bn sb = some (ordV ak an sa.toList bk bn sb.toList) := by
    intro x y hxy
    simp only [stratumref04_Order.j1, stratumref04_Order.j2, less_is sa sb hs (k + 1) (by omega), Option.bind_some, ordV]
    have eqv : (ak == bk && (an == bn && (sa.toList == sb.toList))) = true ↔ ak = bk ∧ an = bn ∧ sa.toList = sb.toList := by simp [Bool.and_eq_true]
    rcases hI with ⟨h, e⟩ | ⟨h, e⟩ | ⟨h, e⟩
    · rw [if_pos h, if_pos trivial, if_neg (by omega), e]
    · rw [if_neg (by omega), if_pos h, if_pos e]
      have hx := hxy h
      have hn := (ordN_or ak an bn ha hb).1
      by_cases c1 : x < y
      · rw [if_pos c1, if_pos trivial, if_neg (by have := hx.1.1 c1; omega), hx.1.1 c1]
      · rw [if_neg c1]
        by_cases c2 : x = y
        · rw [if_pos c2, if_pos (hx.2.1 c2)]
          have hq : an = bn := by
            have := hx.2.1 c2
            rcases hn with h1 | ⟨h1, _⟩ | h1
            · omega
            · exact h1
            · omega
          rcases ordS_or sa.toList sb.toList with ⟨k1, k2, q⟩ | ⟨k1, q⟩ | ⟨k1, k2, q⟩
          · rw [k1, if_pos rfl, q]
          · rw [k1, less_self, if_neg (by simp), if_pos (by rw [← k1] at eqv; simp [h, hq, k1]), ← k1, k1, show ordS sb.toList sb.toList = 0 by rw [k1] at q; exact q]
          · rw [k2, if_neg (by simp), if_neg (fun h' => by rw [(eqv.1 h').2.2] at k1; rw [less_self] at k1; cases k1), q]
        · have n0 : ¬ ordN ak an bn = 0 := fun h => c2 (hx.2.2 h)
          have n1 : ordN ak an bn = 1 := by
            rcases hn with h1 | ⟨_, h1⟩ | h1
            · exact absurd (hx.1.2 h1) c1
            · exact absurd h1 n0
            · exact h1
          rw [if_neg c2, if_neg (by simp), if_neg n0, if_neg (fun h' => by
            have := (eqv.1 h').2.1
            subst this
            have h9 := (ordN_or ak an an ha ha).2
            omega), n1]
    · rw [if_neg (by omega), if_neg (by omega), if_neg (by simp), if_neg (fun h' => by have := (eqv.1 h').1; omega), if_neg (by omega), e]
  unfold stratumref04_Order.f
  by_cases c : ak = 2
  · rw [if_pos c]
    simp only [stratumref04_Order.j0]
    by_cases d : bk = 2
    · rw [if_pos (by simp [d])]
      refine core _ _ fun _ => ?_
      rw [uw, uw]
      unfold ordN
      rw [if_pos c]
      have h1 := ordI_or (wrap64 an) (wrap64 bn)
      unfold wrap64 at h1 ⊢
      omega
    · rw [if_neg (by simp [d])]
      exact core _ _ fun h => absurd (h.symm.trans c) d
  · rw [if_neg c]
    simp only [stratumref04_Order.j0]
    rw [if_neg (by simp)]
    refine core _ _ fun _ => ?_
    unfold ordN
    rw [if_neg c]
    have h1 := ordI_or an bn
    omega
theorem ordV_self (k n : Int) (s : List UInt8) : ordV k n s k n s = 0 := by
  have h1 : ordI k k = 0 := by have := ordI_or k k; omega
  have h2 : ordN k n n = 0 := by
    unfold ordN
    split
    · have := ordI_or (wrap64 n) (wrap64 n); omega
    · have := ordI_or n n; omega
  have h3 : ordS s s = 0 := by simp [ordS, less_self]
  simp [ordV, h1, h2, h3]
/-- So many rounds that all texts are gone through. -/
theorem bound (l : List S27) : ∃ B : Nat, ∀ x ∈ l, x.f2.size ≤ B := by
  induction l with
  | nil => exact ⟨0, by simp⟩
  | cons a l ih =>
    obtain ⟨B, hB⟩ := ih
    refine ⟨max B a.f2.size, fun x hx => ?_⟩
    rcases List.mem_cons.1 hx with rfl | hx
    · omega
    · have := hB x hx
      omega
theorem KindExact : stratumlaw04_KindExact.PureX := by
  intro l ⟨hl, hw⟩
  obtain ⟨B, hB⟩ := bound l
  have rdm : ∀ i : Nat, i < l.length → rd_T27 l i ∈ l := fun i hi => by
    unfold rd_T27
    rw [Int.toNat_natCast, List.getD_eq_getElem?_getD, List.getElem?_eq_getElem hi]
    exact List.getElem_mem hi
  have loop : ∀ (d : Nat) (k i : Nat), i ≤ l.length → l.length - i = d → 4 * d + 2 * B + 20 < k → stratumlaw04_KindExact.l0 k l i = some true := by
    intro d
    induction d with
    | zero =>
      intro k i h1 h2 h3
      obtain ⟨k, rfl⟩ : ∃ m, k = m + 1 := ⟨k - 1, by omega⟩
      simp only [stratumlaw04_KindExact.l0]
      rw [if_neg (by omega)]
    | succ d ih =>
      intro k i h1 h2 h3
      obtain ⟨k, rfl⟩ : ∃ m, k = m + 3 := ⟨k - 3, by omega⟩
      have hx := rdm i (by omega)
      obtain ⟨wx1, wx2, wx3⟩ := hw _ hx
      have hxb := hB _ hx
      simp only [stratumlaw04_KindExact.l0]
      rw [if_pos (by omega), if_pos (by omega), kind_valid (k + 2) _ _ _ wx3 (by omega), Option.bind_some, ref_valid (k + 2) _ _ _ wx3 (by omega), Option.bind_some, if_neg (by simp)]
      obtain ⟨k, rfl⟩ : ∃ m, k = m + 2 := ⟨k - 2, by omega⟩
      rw [order_is (k + 1), Option.bind_some, ordV_self]
      simp only [stratumlaw04_KindExact.j1, stratumlaw04_KindExact.j2]
      rw [if_neg (by simp)]
      have nxt : ∀ b, b = false → stratumlaw04_KindExact.j2 (k + 3) l i b = some true := by
        intro b hb
        subst hb
        simp only [stratumlaw04_KindExact.j2]
        rw [if_neg (by simp), w64_small _ (by omega) (by omega), show (i : Int) + 1 = ((i + 1 : Nat) : Int) by omega]
        exact ih (k + 2) (i + 1) (by omega) (by omega) (by omega)
      by_cases h0 : i = 0
      · rw [if_neg (by omega)]
        exact nxt false rfl
      · have e1 : wrap64 ((i : Int) - 1) = ((i - 1 : Nat) : Int) := by rw [w64_small _ (by omega) (by omega)]; omega
        have hy := rdm (i - 1) (by omega)
        obtain ⟨wy1, wy2, wy3⟩ := hw _ hy
        have hyb := hB _ hy
        rw [if_pos (by omega), e1, if_pos (by omega), if_pos (by omega), if_pos (by omega), if_pos (by omega)]
        rw [order_is k, Option.bind_some, ref_order (k + 3) _ _ _ _ _ _ wy3 (by omega) (u64_wf wy2) (u64_wf wx2), Option.bind_some, if_pos rfl]
        rw [order_is k, Option.bind_some, ref_order (k + 3) _ _ _ _ _ _ wx3 (by omega) (u64_wf wx2) (u64_wf wy2), Option.bind_some]
        exact nxt _ (by simp)
  refine ⟨4 * l.length + 2 * B + 30, ?_⟩
  simp only [stratumlaw04_KindExact.f]
  rw [awake_is _ (by omega), Option.bind_some, if_pos rfl]
  exact loop l.length _ 0 (by omega) (by omega) (by omega)
end Go.Proofs.Ytepkmbbeaaljlaa.Pure
