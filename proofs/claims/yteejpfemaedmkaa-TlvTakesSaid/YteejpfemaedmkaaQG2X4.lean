-- Written by wip/printx.py: the kit's printer with functions proved by hand. Not trusted: Lean checks it.
import Derived.Test.YteejpfemaedmkaaQG2X0
namespace Go.Proofs.Yteejpfemaedmkaa.X
open Go.RowKit Go.Proofs.YteejpfemaedmkaaW.PrintWords Go.Proofs.YteejpfemaedmkaaW.PrintLast Go.Proofs.YteejpfemaedmkaaW.PrintMore
attribute [local go_sem] max2_int min2_int max_two min_two max_three min_three max_four min_four
set_option linter.unusedVariables false
set_option linter.unusedSimpArgs false
attribute [local go_sem] vx_gtr vx_leq vx_geq
def table_Find.f (l0_0 : List S48) (a1 : ByteArray) : Option Int := some (match l0_0.findIdx? (fun t => t.f0.toList == a1.toList) with | some i => (i : Int) | none => -1)
def api_Column_51.f (l0 : List S35) : Option (List S35) := if l0.length < 4398046511104 then some l0 else none
def table_Columns.j0 : Nat → Int → Int → Bool → List (S48) → Option ((List (S35)) × Int)
 | 0, _, _, _, _ => none
 | k + 1, x1, x2, x17, x102000 => if x17 = true then (some (([] : List (S35)), 131)) else (if 0 ≤ x1 then (if x1 < (x102000.length : Int) then (if x2 < 1 then (some (([] : List (S35)), 132)) else (if x2 > (((rd_T48 x102000 x1).f1).length : Int) then (some (([] : List (S35)), 132)) else (if 0 ≤ (wrap64 (x2 - 1)) then (if (wrap64 (x2 - 1)) < (((rd_T48 x102000 x1).f1).length : Int) then ((api_Column_51.f ((rd_T45 ((rd_T48 x102000 x1).f1) (wrap64 (x2 - 1))).f1)).bind fun t104 => (some (t104, 0))) else (none)) else (none)))) else (none)) else (none))
def table_Columns.f (k : Nat) (l0_0 : List (S48)) (a1 : Int) (a2 : Int) : Option ((List (S35)) × Int) := if a1 < 0 then (table_Columns.j0 k a1 a2 true l0_0) else (table_Columns.j0 k a1 a2 (decide ((l0_0.length : Int) ≤ a1)) l0_0)
def table_Column.l0 : Nat → ByteArray → List (S35) → Int → Int → Option (ByteArray × Int × Int × Bool)
 | 0, _, _, _, _ => none
 | k + 1, x1, x8, x9, x10 => if x10 < x9 then (if 0 ≤ x10 then (if x10 < (x8.length : Int) then (if ((rd_T35 x8 x10).f0).toList = x1.toList then (some ((rd_T35 x8 x10).f0, (rd_T35 x8 x10).f1, (rd_T35 x8 x10).f2, true)) else (table_Column.l0 k x1 x8 x9 (wrap64 (x10 + 1)))) else (none)) else (none)) else (some ((⟨#[]⟩ : ByteArray), 0, 0, false))
def table_Column.f (k : Nat) (l0 : List (S35)) (a1 : ByteArray) : Option (ByteArray × Int × Int × Bool) := table_Column.l0 k a1 l0 (l0.length : Int) 0
def utf_character.f (a0 : Int) : Option (Bool) := if a0 ≥ 0 then (if a0 ≤ 1114111 then (if a0 < 55296 then (some true) else (some (decide (57343 < a0)))) else (some false)) else (some false)
set_option maxHeartbeats 8000000 in
set_option maxRecDepth 100000 in
theorem utf_character.calls (a0 : Int) (r : Bool) (w : World) (h : utf_character.f a0 = some r) :
  Calls Try.prog 83 #[.int .i64 a0] w fun e w' => e = .returned (.bool r) ∧ Drawn0 w w' := by
 have H : (if a0 ≥ 0 then (if a0 ≤ 1114111 then (if a0 < 55296 then (some true) else (some (decide (57343 < a0)))) else (some false)) else (some false)) = some r := h
 clear h
 by_cases c2 : a0 ≥ 0
 ·rw [if_pos c2] at H
  have c2b0 : decide (0 ≤ a0) = true := decide_eq_true c2
  clear c2
  by_cases c3 : a0 ≤ 1114111
  ·rw [if_pos c3] at H
   have c3b0 : decide (a0 ≤ 1114111) = true := decide_eq_true c3
   clear c3
   by_cases c4 : a0 < 55296
   ·rw [if_pos c4] at H
    have c4b0 : decide (a0 < 55296) = true := decide_eq_true c4
    clear c4
    obtain rfl := Option.some.inj H
    go_enter Try.func83, Try.ntmps83
    go_wp2
    go_ret
    exact ⟨by first | rfl | (simp; done) | (simp [*]; done), by repeat (first | exact Drawn0.refl _ | apply Drawn0.step)⟩
   ·rw [if_neg c4] at H
    have c4b0 : decide (a0 < 55296) = false := decide_eq_false c4
    clear c4
    obtain rfl := Option.some.inj H
    go_enter Try.func83, Try.ntmps83
    go_wp2
    go_ret
    exact ⟨by first | rfl | (simp; done) | (simp [*]; done), by repeat (first | exact Drawn0.refl _ | apply Drawn0.step)⟩
  ·rw [if_neg c3] at H
   have c3b0 : decide (a0 ≤ 1114111) = false := decide_eq_false c3
   clear c3
   obtain rfl := Option.some.inj H
   go_enter Try.func83, Try.ntmps83
   go_wp2
   go_ret
   exact ⟨by first | rfl | (simp; done) | (simp [*]; done), by repeat (first | exact Drawn0.refl _ | apply Drawn0.step)⟩
 ·rw [if_neg c2] at H
  have c2b0 : decide (0 ≤ a0) = false := decide_eq_false c2
  clear c2
  obtain rfl := Option.some.inj H
  go_enter Try.func83, Try.ntmps83
  go_wp2
  go_ret
  exact ⟨by first | rfl | (simp; done) | (simp [*]; done), by repeat (first | exact Drawn0.refl _ | apply Drawn0.step)⟩
end Go.Proofs.Yteejpfemaedmkaa.X
