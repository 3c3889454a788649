/- TableFits: a record that is typed is one that layer 5 encodes, and what layer 5 decodes of it is typed by the same columns and by no others. -/
import Derived.Test.YteejpfemaedmkaaQG1STableFits
import Derived.Test.YteejpfemaedmkaaQG1PlainTyped
import Derived.Test.YteejpfemaedmkaaQG1PlainTlvD
import Derived.Test.YteejpfemaedmkaaQG1PlainAwake13
namespace Go.Proofs.Yteejpfemaedmkaa.Pure
set_option linter.unusedSimpArgs false
set_option linter.unusedVariables false
open Go.RowKit Go.Proofs.Yteejpfemaedmkaa.X Go.Proofs.YteejpfemaedmkaaW.PrintWords Go.Proofs.YteejpfemaedmkaaW.PrintLast Go.Proofs.Yteejpfemaedmkaa.Plain
def alikeL : List S35 → List S35 → Bool
  | o :: os, c :: cs => decide (o.f1 = c.f1) && ((o.f2 == c.f2) && alikeL os cs)
  | _, _ => true
theorem alikeL_cons (o : S35) (os : List S35) (c : S35) (cs : List S35) :
    alikeL (o :: os) (c :: cs) = (decide (o.f1 = c.f1) && ((o.f2 == c.f2) && alikeL os cs)) := by
  conv => lhs; unfold alikeL
theorem alikeL_nil (o : List S35) : alikeL o [] = true := by
  cases o <;> (unfold alikeL; rfl)
theorem match_alike : ∀ (c : List S35) (o : List S35) (l : List S53), c.length = l.length → o.length = l.length → matchL c l = true → matchL o l = alikeL o c
  | [], [], [], _, _, _ => by unfold matchL alikeL; rfl
  | c :: cs, o :: os, f :: fs, h1, h2, h => by
    rw [matchL_cons] at h
    simp only [Bool.and_eq_true, decide_eq_true_eq] at h
    obtain ⟨a1, a2, a3, a4⟩ := h
    rw [matchL_cons, alikeL_cons, match_alike cs os fs (by simpa using h1) (by simpa using h2) a4, a3, Bool.true_and]
    have e1 : decide (f.f0 = o.f1) = decide (o.f1 = c.f1) := by rw [decide_eq_decide, a1]; exact eq_comm
    have e2 : decide (f.f1.f0 = o.f2) = (o.f2 == c.f2) := by
      rw [a2, Bool.eq_iff_iff, decide_eq_true_eq, beq_iff_eq]
      exact eq_comm
    rw [e1, e2]
  | [], [], _ :: _, h1, _, _ => by simp at h1
  | [], _ :: _, [], _, h2, _ => by simp at h2
  | [], _ :: _, _ :: _, h1, _, _ => by simp at h1
  | _ :: _, [], [], h1, _, _ => by simp at h1
  | _ :: _, _ :: _, [], h1, _, _ => by simp at h1
  | _ :: _, [], _ :: _, _, h2, _ => by simp at h2
theorem fits_l1 (c : List S35) (l : List S53) (o : List S35) (hs : ∀ f ∈ l, smallF f) (hl : l.length ≤ 140737488351232) (hc : c.length = l.length) (d : Nat) :
    ∀ (k i : Nat) (b : Bool), i ≤ c.length → c.length - i = d → 140737488351300 + 3 * l.length + d + 5 < k → (b = true → o.length = c.length) → ((typedL o l == 0) == (b && alikeL (o.drop i) (c.drop i))) = true → stratumlaw13_TableFits.l1 k c l o b (i : Int) = some true := by
  induction d with
  | zero =>
    intro k i b h1 h2 h3 h4 h5
    obtain ⟨k, rfl⟩ : ∃ m, k = m + 1 := ⟨k - 1, by omega⟩
    simp only [stratumlaw13_TableFits.l1]
    rw [List.drop_eq_nil_of_le (show c.length ≤ i by omega), alikeL_nil, Bool.and_true] at h5
    rw [if_neg (show ¬ (i : Int) < (c.length : Int) by omega), typed_is k o l hs hl (by omega), Option.bind_some, h5]
    split <;> rfl
  | succ d ih =>
    intro k i b h1 h2 h3 h4 h5
    obtain ⟨k, rfl⟩ : ∃ m, k = m + 1 := ⟨k - 1, by omega⟩
    simp only [stratumlaw13_TableFits.l1]
    cases b with
    | false =>
      rw [Bool.false_and] at h5
      rw [if_neg (by decide), typed_is k o l hs hl (by omega), Option.bind_some, h5]
    | true =>
      have ho := h4 rfl
      have hi : i < c.length := by omega
      have hi2 : i < o.length := by omega
      rw [Bool.true_and, List.drop_eq_getElem_cons hi, List.drop_eq_getElem_cons hi2, alikeL_cons] at h5
      rw [if_pos rfl, if_pos (by omega), if_pos (by omega), if_pos (by omega), rd_column c i hi, rd_column o i hi2, w64_succ i (by omega)]
      by_cases e1 : o[i].f1 = c[i].f1
      · rw [decide_eq_true e1, Bool.true_and] at h5
        rw [if_pos e1]
        exact ih k (i + 1) _ (by omega) (by omega) (by omega) (fun _ => ho) h5
      · rw [decide_eq_false e1, Bool.false_and] at h5
        rw [if_neg e1]
        exact ih k (i + 1) false (by omega) (by omega) (by omega) (fun e => absurd e (by decide)) (by rw [Bool.false_and]; exact h5)
theorem fits_l0 (c : List S35) (l : List S53) (o : List S35) (hs : ∀ f ∈ l, smallF f) (hl : l.length ≤ 140737488351232) (hc : c.length = l.length) (M : Nat)
    (hend : ∀ k, 140737488351300 + M < k → stratumlaw13_TableFits.l1 k c l o ((o.length : Int) == (c.length : Int)) 0 = some true) (d : Nat) :
    ∀ (k i : Nat), i ≤ l.length → l.length - i = d → 140737488351300 + M + 2 * d + 5 < k → matchL (c.drop i) (l.drop i) = true → stratumlaw13_TableFits.l0 k c l o (i : Int) = some true := by
  induction d with
  | zero =>
    intro k i h1 h2 h3 h4
    obtain ⟨k, rfl⟩ : ∃ m, k = m + 1 := ⟨k - 1, by omega⟩
    simp only [stratumlaw13_TableFits.l0]
    rw [if_neg (by omega)]
    exact hend k (by omega)
  | succ d ih =>
    intro k i h1 h2 h3 h4
    obtain ⟨k, rfl⟩ : ∃ m, k = m + 1 + 1 := ⟨k - 2, by omega⟩
    have hi : i < l.length := by omega
    have hi2 : i < c.length := by omega
    obtain ⟨g0, g1, g2⟩ := hs _ (List.getElem_mem hi)
    rw [List.drop_eq_getElem_cons hi, List.drop_eq_getElem_cons hi2, matchL_cons] at h4
    simp only [Bool.and_eq_true, decide_eq_true_eq] at h4
    obtain ⟨a1, a2, a3, a4⟩ := h4
    simp only [stratumlaw13_TableFits.l0, stratumlaw13_TableFits.j2]
    rw [if_pos (by omega), if_pos (by omega), if_pos (by omega), rd_field l i hi, rd_column c i hi2, if_pos a1, if_pos a2, kind_valid _ _ _ _ g2 (by omega), Option.bind_some, a3, if_neg (by decide), w64_succ i (by omega)]
    exact ih k (i + 1) (by omega) (by omega) (by omega) a4
theorem typed_zero {c : List S35} {l : List S53} : typedL c l = 0 ↔ l.length = c.length ∧ matchL c l = true ∧ codeT l = 0 := by
  unfold typedL
  by_cases h : (l.length : Int) = (c.length : Int)
  · rw [if_pos h]
    cases hm : matchL c l with
    | true => rw [if_pos rfl]; exact ⟨fun e => ⟨by omega, rfl, e⟩, fun e => e.2.2⟩
    | false => rw [if_neg (by decide)]; exact ⟨fun e => absurd e (by decide), fun e => absurd e.2.1 (by decide)⟩
  · rw [if_neg h]
    exact ⟨fun e => absurd e (by decide), fun e => absurd e.1 (by omega)⟩
theorem codeT_zero {l : List S53} (h : codeT l = 0) : (measureL l).2.2 = 0 := by
  unfold codeT at h
  by_cases h0 : (measureL l).2.2 = 0
  · exact h0
  · rw [if_neg h0] at h
    split at h <;> cases h
theorem typed_codes (c : List S35) (l : List S53) : typedL c l = 0 ∨ typedL c l = 130 ∨ (typedL c l = 2 ∧ l.length = c.length) := by
  unfold typedL codeT
  by_cases h : (l.length : Int) = (c.length : Int)
  · rw [if_pos h]
    by_cases hm : matchL c l = true
    · rw [if_pos hm]
      by_cases h0 : (measureL l).2.2 = 0
      · rw [if_pos h0]; exact .inl rfl
      · rw [if_neg h0]
        by_cases h2 : (measureL l).2.2 = 2
        · rw [if_pos h2]; exact .inr (.inr ⟨rfl, by omega⟩)
        · rw [if_neg h2]; exact .inr (.inl rfl)
    · rw [if_neg hm]; exact .inr (.inl rfl)
  · rw [if_neg h]; exact .inr (.inl rfl)
theorem TableFits : stratumlaw13_TableFits.PureX := by
  intro c l o hc hl ho
  have hs : ∀ f ∈ l, smallF f := fun f hf => smallF_of (hl.2 f hf)
  have h1 : l.length ≤ 140737488351232 := by have h1 := hl.1; omega
  obtain ⟨q, hq⟩ : ∃ q, q = 140737488351300 + 8 * l.length + 50000000 := ⟨_, rfl⟩
  refine ⟨q + 1, ?_⟩
  simp only [stratumlaw13_TableFits.f]
  rw [awake13 _ (by omega), Option.bind_some, if_pos rfl, typed_is _ c l hs h1 (by omega), Option.bind_some]
  rcases typed_codes c l with h0 | h0 | ⟨h0, hlen⟩
  · obtain ⟨e1, e2, e3⟩ := typed_zero.1 h0
    have hz := codeT_zero e3
    obtain ⟨r1, r2, r3⟩ := measure_zero hz
    have he : encodeL l = (encL l, 0) := by unfold encodeL; rw [if_pos hz]
    rw [if_pos h0, encode_is _ l hs h1 (by omega), Option.bind_some, he, decode_is _ _ (encL_range l) (by omega), Option.bind_some, decode_enc r1 hs r2, if_pos rfl, if_pos rfl, typed_is _ c l hs h1 (by omega), Option.bind_some, if_pos h0]
    have hne : ((c.length : Int) != (l.length : Int)) = false := by simp [e1]
    rw [hne]
    simp only [stratumlaw13_TableFits.j0]
    rw [if_neg (by decide)]
    refine fits_l0 c l o hs h1 e1.symm (4 * l.length + 10) (fun k hk => ?_) l.length q 0 (by omega) (by omega) (by omega) (by rw [List.drop_zero, List.drop_zero]; exact e2)
    refine fits_l1 c l o hs h1 e1.symm c.length k 0 _ (by omega) (by omega) (by omega) (fun e => by have := beq_iff_eq.1 e; omega) ?_
    rw [List.drop_zero, List.drop_zero]
    by_cases hoc : o.length = c.length
    · have hb : ((o.length : Int) == (c.length : Int)) = true := by rw [hoc]; exact beq_self_eq_true _
      rw [hb, Bool.true_and, ← match_alike c o l e1.symm (by omega) e2]
      cases hm : matchL o l with
      | true =>
        rw [typed_zero.2 ⟨by omega, hm, e3⟩]
        rfl
      | false =>
        have : ¬ typedL o l = 0 := fun e => by have := (typed_zero.1 e).2.1; rw [hm] at this; cases this
        simp [this]
    · have hb : ((o.length : Int) == (c.length : Int)) = false := by
        rw [beq_eq_false_iff_ne]
        omega
      have : ¬ typedL o l = 0 := fun e => by have := (typed_zero.1 e).1; omega
      rw [hb, Bool.false_and]
      simp [this]
  · rw [h0, if_neg (by decide), if_pos rfl]
  · have hnil : typedL (c.take 0) (l.take 0) = 0 := by
      rw [List.take_zero, List.take_zero]
      refine typed_zero.2 ⟨rfl, by unfold matchL; rfl, ?_⟩
      have : measureL ([] : List S53) = (0, 0, 0) := by unfold measureL badAt encL; rfl
      unfold codeT
      rw [this]
      rfl
    rw [h0, if_neg (by decide), if_neg (by decide), if_pos rfl, if_pos (by omega), if_pos (by omega), typed_is _ _ _ (fun f hf => hs f (List.mem_of_mem_take hf)) (by simp) (by simp; omega), Option.bind_some, if_pos hnil, hlen]
    simp
end Go.Proofs.Yteejpfemaedmkaa.Pure
