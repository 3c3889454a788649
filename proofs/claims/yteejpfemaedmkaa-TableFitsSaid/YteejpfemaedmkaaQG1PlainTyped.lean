import Derived.Test.YteejpfemaedmkaaQG1X9
import Derived.Test.YteejpfemaedmkaaQG1PlainTlvP
import Derived.Test.YteejpfemaedmkaaQG1PlainTable
namespace Go.Proofs.Yteejpfemaedmkaa.Plain
set_option linter.unusedSimpArgs false
set_option linter.unusedVariables false
open Go.RowKit Go.Proofs.Yteejpfemaedmkaa.X Go.Proofs.YteejpfemaedmkaaW.PrintWords Go.Proofs.YteejpfemaedmkaaW.PrintLast
/-- Of the columns' tags and kinds, and valid. -/
def matchL : List S35 → List S53 → Bool
  | c :: cs, f :: fs => decide (f.f0 = c.f1) && (decide (f.f1.f0 = c.f2) && (validV f.f1.f0 f.f1.f1 f.f1.f2 && matchL cs fs))
  | _, _ => true
theorem matchL_cons (c : S35) (cs : List S35) (f : S53) (fs : List S53) :
    matchL (c :: cs) (f :: fs) = (decide (f.f0 = c.f1) && (decide (f.f1.f0 = c.f2) && (validV f.f1.f0 f.f1.f1 f.f1.f2 && matchL cs fs))) := by
  conv => lhs; unfold matchL
def codeT (l : List S53) : Int := if (measureL l).2.2 = 0 then 0 else if (measureL l).2.2 = 2 then 2 else 130
def typedL (c : List S35) (l : List S53) : Int := if (l.length : Int) = (c.length : Int) then (if matchL c l = true then codeT l else 130) else 130
theorem typed_loop (c : List S35) (l : List S53) (hs : ∀ f ∈ l, smallF f) (hl : l.length ≤ 140737488351232) (hc : l.length = c.length) (d : Nat) : ∀ (k i : Nat), i ≤ l.length → l.length - i = d → 140737488351300 + 2 * l.length + d + 1 < k →
    table_Typed.l0 k c l l (l.length : Int) (i : Int) = some (if matchL (c.drop i) (l.drop i) = true then codeT l else 130) := by
  induction d with
  | zero =>
    intro k i h1 h2 h3
    obtain ⟨k, rfl⟩ : ∃ m, k = m + 1 := ⟨k - 1, by omega⟩
    simp only [table_Typed.l0]
    rw [if_neg (by omega), List.drop_eq_nil_of_le (by omega), List.drop_eq_nil_of_le (by omega), check_is k l hs hl (by omega), Option.bind_some, if_pos (show matchL [] [] = true by unfold matchL; rfl)]
    unfold codeT
    by_cases h0 : (measureL l).2.2 = 0
    · rw [if_pos h0, if_pos h0]
    · rw [if_neg h0, if_neg h0]
      by_cases h0 : (measureL l).2.2 = 2
      · rw [if_pos h0, if_pos h0]
      · rw [if_neg h0, if_neg h0]
  | succ d ih =>
    intro k i h1 h2 h3
    obtain ⟨k, rfl⟩ : ∃ m, k = m + 1 := ⟨k - 1, by omega⟩
    have hi : i < l.length := by omega
    have hi2 : i < c.length := by omega
    obtain ⟨g0, g1, g2⟩ := hs _ (List.getElem_mem hi)
    have hv : kind_Valid.f k l[i].f1.f0 l[i].f1.f1 l[i].f1.f2 = some (validV l[i].f1.f0 l[i].f1.f1 l[i].f1.f2) := kind_valid _ _ _ _ g2 (by omega)
    simp only [table_Typed.l0]
    rw [if_pos (by omega), if_pos (by omega), if_pos (by omega), if_pos (by omega), rd_field l i hi, rd_column c i hi2, List.drop_eq_getElem_cons hi, List.drop_eq_getElem_cons hi2, matchL_cons]
    by_cases c1 : l[i].f0 = c[i].f1
    · rw [if_pos c1, decide_eq_true c1, Bool.true_and]
      by_cases c2 : l[i].f1.f0 = c[i].f2
      · rw [if_pos c2, decide_eq_true c2, Bool.true_and, hv, Option.bind_some]
        cases validV l[i].f1.f0 l[i].f1.f1 l[i].f1.f2 with
        | true => rw [if_pos rfl, Bool.true_and, w64_succ i (by omega), ih k (i + 1) (by omega) (by omega) (by omega)]
        | false => rw [if_neg (by decide), Bool.false_and, if_neg (by decide)]
      · rw [if_neg c2, decide_eq_false c2, Bool.false_and, if_neg (by decide)]
    · rw [if_neg c1, decide_eq_false c1, Bool.false_and, if_neg (by decide)]
theorem typed_is (k : Nat) (c : List S35) (l : List S53) (hs : ∀ f ∈ l, smallF f) (hl : l.length ≤ 140737488351232) (hk : 140737488351300 + 3 * l.length + 1 < k) : table_Typed.f k c l = some (typedL c l) := by
  unfold table_Typed.f typedL
  by_cases h : (l.length : Int) = (c.length : Int)
  · rw [if_pos h, if_pos h]
    exact typed_loop c l hs hl (by omega) l.length k 0 (by omega) (by omega) (by omega)
  · rw [if_neg h, if_neg h]
end Go.Proofs.Yteejpfemaedmkaa.Plain
