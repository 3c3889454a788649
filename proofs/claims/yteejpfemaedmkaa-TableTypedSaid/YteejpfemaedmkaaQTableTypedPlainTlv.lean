import Derived.Test.YteejpfemaedmkaaQTableTypedXOpen
import Derived.Test.YteejpfemaedmkaaQTableTypedPlainValid
import Derived.Test.YteejpfemaedmkaaQTableTypedPlainBits
namespace Go.Proofs.Yteejpfemaedmkaa.Plain
set_option linter.unusedSimpArgs false
set_option linter.unusedVariables false
open Go.RowKit Go.Proofs.Yteejpfemaedmkaa.X Go.Proofs.YteejpfemaedmkaaW.PrintWords Go.Proofs.YteejpfemaedmkaaW.PrintLast
theorem rd_field (l : List S53) (i : Nat) (h : i < l.length) : rd_T53 l (i : Int) = l[i] := by
  unfold rd_T53
  rw [Int.toNat_natCast, List.getD_eq_getElem?_getD, List.getElem?_eq_getElem h, Option.getD_some]
/-- A value's payload. -/
def payL (k n : Int) (s : ByteArray) : List Int := if k = 1 then vput n.toNat else if k = 2 then vput (zig (wrap64 n)).toNat else if k = 3 then [n % 256] else bytesOf s
def keyN (f : S53) : Nat := (8 * f.f0 + f.f1.f0).toNat
def payF (f : S53) : List Int := payL f.f1.f0 f.f1.f1 f.f1.f2
/-- A field's bytes. -/
def encF (f : S53) : List Int := vput (keyN f) ++ (vput (payF f).length ++ payF f)
def encL : List S53 → List Int
  | [] => []
  | f :: l => encF f ++ encL l
def smallF (f : S53) : Prop := 0 ≤ f.f1.f1 ∧ f.f1.f1 < 18446744073709551616 ∧ f.f1.f2.size ≤ 140737488351232
def okF (f : S53) : Prop := 1 ≤ f.f0 ∧ f.f0 ≤ 65535 ∧ validV f.f1.f0 f.f1.f1 f.f1.f2 = true
def okB (last : Int) (f : S53) : Bool := decide (1 ≤ f.f0) && (decide (f.f0 ≤ 65535) && (decide (last < f.f0) && validV f.f1.f0 f.f1.f1 f.f1.f2))
/-- The place of the first field that cannot stand there. -/
def badAt : Int → Int → List S53 → Option Int
  | _, _, [] => none
  | i, last, f :: l => if okB last f = true then badAt (i + 1) f.f0 l else some i
def measureL (l : List S53) : Int × Int × Int := match badAt 0 0 l with
  | some i => (0, i, 1)
  | none => if ((encL l).length : Int) > 16777215 then (0, 0, 2) else (((encL l).length : Int), 0, 0)
theorem okB_iff (last : Int) (f : S53) : okB last f = true ↔ last < f.f0 ∧ okF f := by
  simp only [okB, okF, Bool.and_eq_true, decide_eq_true_eq]
  exact ⟨fun h => ⟨h.2.2.1, h.1, h.2.1, h.2.2.2⟩, fun h => ⟨h.2.1, h.2.2.1, h.1, h.2.2.2⟩⟩
theorem validV_kind {k n : Int} {s : ByteArray} (h : validV k n s = true) : 1 ≤ k ∧ k ≤ 5 := by
  unfold validV at h
  by_cases h1 : k = 1 ∨ k = 2
  · omega
  rw [if_neg h1] at h
  by_cases h3 : k = 3
  · omega
  rw [if_neg h3] at h
  by_cases h4 : k = 4
  · omega
  rw [if_neg h4] at h
  by_cases h5 : k = 5
  · omega
  rw [if_neg h5] at h
  cases h
theorem payL_length (k n : Int) (s : ByteArray) (h0 : 0 ≤ n) (h1 : n < 18446744073709551616) (h2 : s.size ≤ 140737488351232) : (payL k n s).length ≤ 140737488351232 := by
  unfold payL
  split
  · have := vput_ten n.toNat (by omega); omega
  · split
    · have := zig_hi (wrap64 n) (w64_lo n) (w64_hi n)
      have := vput_ten (zig (wrap64 n)).toNat (by omega); omega
    · split
      · simp
      · rw [bytesOf_length]; omega
theorem key_hi {f : S53} (h : okF f) : (keyN f : Int) = 8 * f.f0 + f.f1.f0 ∧ keyN f < 1000000 := by
  have := validV_kind h.2.2
  have h1 := h.1
  have h2 := h.2.1
  unfold keyN
  omega
theorem encF_length (f : S53) (h : okF f) (hs : smallF f) : (encF f).length ≤ 140737488351300 := by
  have h1 := vput_ten (keyN f) (by have := key_hi h; omega)
  have h2 : (payF f).length ≤ 140737488351232 := payL_length _ _ _ hs.1 hs.2.1 hs.2.2
  have h3 := vput_ten (payF f).length (by omega)
  simp only [encF, List.length_append]
  omega
end Go.Proofs.Yteejpfemaedmkaa.Plain
