-- Written by wip/printx.py: the kit's printer with functions proved by hand. Not trusted: Lean checks it.
import Derived.Test.YtepkmbbeaaljlaaQKindStartX0
import Derived.Test.YtepkmbbeaaljlaaQKindStartX4
import Derived.Test.YtepkmbbeaaljlaaQKindStartX5
namespace Go.Proofs.Ytepkmbbeaaljlaa.X
open Go.RowKit Go.Proofs.YtepkmbbeaaljlaaW.PrintWords Go.Proofs.YtepkmbbeaaljlaaW.PrintLast Go.Proofs.YtepkmbbeaaljlaaW.PrintMore
attribute [local go_sem] max2_int min2_int max_two min_two max_three min_three max_four min_four
set_option linter.unusedVariables false
set_option linter.unusedSimpArgs false
attribute [local go_sem] vx_gtr vx_leq vx_geq
def stratumlaw04_KindNumbers.f (k : Nat) (a0_0 : Int) (a0_1 : Int) (a0_2 : Int) (a0_3 : Int) : Option (Bool) := (stratumlaw04_awake.f k).bind fun t206 => (if t206 = true then ((kind_Order.f k 2 (IntKind.u64.wrap (a0_0)) (⟨#[]⟩ : ByteArray) 2 (IntKind.u64.wrap (a0_1)) (⟨#[]⟩ : ByteArray)).bind fun t207 => ((kind_Order.f k 1 a0_2 (⟨#[]⟩ : ByteArray) 1 a0_3 (⟨#[]⟩ : ByteArray)).bind fun t208 => (if a0_0 < a0_1 then (if t207 < 0 then (if a0_0 > a0_1 then (if t207 > 0 then (if a0_2 < a0_3 then (if t208 < 0 then (if a0_2 > a0_3 then (some ((decide (0 < t208)) == true)) else (some ((decide (0 < t208)) == false))) else (some false)) else (if t208 < 0 then (some false) else (if a0_2 > a0_3 then (some ((decide (0 < t208)) == true)) else (some ((decide (0 < t208)) == false))))) else (some false)) else (if t207 > 0 then (some false) else (if a0_2 < a0_3 then (if t208 < 0 then (if a0_2 > a0_3 then (some ((decide (0 < t208)) == true)) else (some ((decide (0 < t208)) == false))) else (some false)) else (if t208 < 0 then (some false) else (if a0_2 > a0_3 then (some ((decide (0 < t208)) == true)) else (some ((decide (0 < t208)) == false))))))) else (some false)) else (if t207 < 0 then (some false) else (if a0_0 > a0_1 then (if t207 > 0 then (if a0_2 < a0_3 then (if t208 < 0 then (if a0_2 > a0_3 then (some ((decide (0 < t208)) == true)) else (some ((decide (0 < t208)) == false))) else (some false)) else (if t208 < 0 then (some false) else (if a0_2 > a0_3 then (some ((decide (0 < t208)) == true)) else (some ((decide (0 < t208)) == false))))) else (some false)) else (if t207 > 0 then (some false) else (if a0_2 < a0_3 then (if t208 < 0 then (if a0_2 > a0_3 then (some ((decide (0 < t208)) == true)) else (some ((decide (0 < t208)) == false))) else (some false)) else (if t208 < 0 then (some false) else (if a0_2 > a0_3 then (some ((decide (0 < t208)) == true)) else (some ((decide (0 < t208)) == false))))))))))) else (some false))
def stratumref04_name.f (a0 : Int) : Option (ByteArray) := if a0 = 1 then (some (⟨#[117, 105, 110, 116]⟩ : ByteArray)) else (if a0 = 2 then (some (⟨#[105, 110, 116]⟩ : ByteArray)) else (if a0 = 3 then (some (⟨#[98, 111, 111, 108]⟩ : ByteArray)) else (if a0 = 4 then (some (⟨#[116, 101, 120, 116]⟩ : ByteArray)) else (if a0 = 5 then (some (⟨#[98, 121, 116, 101, 115]⟩ : ByteArray)) else (some (⟨#[]⟩ : ByteArray))))))
def stratumref04_Of.l0 : Nat → ByteArray → Int → Option (Int)
 | 0, _, _ => none
 | k + 1, x0, x3 => if x3 ≤ 5 then ((stratumref04_name.f x3).bind fun t209 => (if t209.toList = x0.toList then (some x3) else (stratumref04_Of.l0 k x0 (wrap64 (x3 + 1))))) else (some 0)
def stratumref04_Of.f (k : Nat) (a0 : ByteArray) : Option (Int) := stratumref04_Of.l0 k a0 1
def kind_Name.f (a0 : Int) : Option (ByteArray) := some (if a0 = 1 then ⟨#[117, 105, 110, 116]⟩ else if a0 = 2 then ⟨#[105, 110, 116]⟩ else if a0 = 3 then ⟨#[98, 111, 111, 108]⟩ else if a0 = 4 then ⟨#[116, 101, 120, 116]⟩ else if a0 = 5 then ⟨#[98, 121, 116, 101, 115]⟩ else ⟨#[]⟩)
set_option maxHeartbeats 1000000 in
theorem kind_Name.calls (a0 : Int) (r : ByteArray) (w : World) (h : kind_Name.f a0 = some r) :
  Calls Try.prog 16 #[.int .i64 a0] w fun e w' => e = .returned (.string r) ∧ Below w.heap.size w w' := by
 have H := Aside0.mk (Option.some.inj h)
 clear h
 have i0 := kf_at0
 have i1 := kf_at1
 have i2 := kf_at2
 have i3 := kf_at3
 have i4 := kf_at4
 go_enter Try.func16, Try.ntmps16
 go_wp2_with (go_at_call 38; refine (kf_filled _).mono ?_; rintro e w1 ⟨rfl, hb1⟩)
 go_loopw [6] (fun i wr => ∃ k : Nat, k ≤ 5 ∧ i = .int .i64 k ∧ Aside0 (∀ j : Nat, j < k → a0 ≠ (j : Int) + 1) ∧ Below w.heap.size w wr) (fun i wr => 5 - (intOf i).toNat)
 case atStart => exact ⟨0, by omega, rfl, ⟨fun j hj => by omega⟩, hb1⟩
 case round =>
  obtain ⟨k, hk, rfl, hn, hB⟩ := hrel
  clear hb1
  by_cases hlt : k < 5
  ·rcases k with _ | _ | _ | _ | _ | k
   ·by_cases hq : a0 = 1
    ·have hr : r = ⟨#[117, 105, 110, 116]⟩ := by rw [← H.out]; simp [hq]
     clear H hn
     subst hq
     subst hr
     go_wp2
     go_ret
     exact ⟨rfl, below_alloc hB _⟩
    ·have b1 : ((1 : Int) == a0) = false := beq_eq_false_iff_ne.mpr (fun e => hq e.symm)
     have b2 : (a0 == (1 : Int)) = false := beq_eq_false_iff_ne.mpr hq
     have hn2 : Aside0 (∀ j : Nat, j < 1 → a0 ≠ (j : Int) + 1) := ⟨fun j hj => by
      rcases Nat.lt_or_ge j 0 with h2 | h2
      ·exact hn.out j h2
      ·obtain rfl : j = 0 := by omega
       exact hq⟩
     clear hq hn
     go_wp2
     go_roundw
     case rel => exact ⟨1, by omega, by go_num, hn2, below_alloc hB _⟩
     case measure => simp [intOf]
   ·by_cases hq : a0 = 2
    ·have hr : r = ⟨#[105, 110, 116]⟩ := by rw [← H.out]; simp [hq]
     clear H hn
     subst hq
     subst hr
     go_wp2
     go_ret
     exact ⟨rfl, below_alloc hB _⟩
    ·have b1 : ((2 : Int) == a0) = false := beq_eq_false_iff_ne.mpr (fun e => hq e.symm)
     have b2 : (a0 == (2 : Int)) = false := beq_eq_false_iff_ne.mpr hq
     have hn2 : Aside0 (∀ j : Nat, j < 2 → a0 ≠ (j : Int) + 1) := ⟨fun j hj => by
      rcases Nat.lt_or_ge j 1 with h2 | h2
      ·exact hn.out j h2
      ·obtain rfl : j = 1 := by omega
       exact hq⟩
     clear hq hn
     go_wp2
     go_roundw
     case rel => exact ⟨2, by omega, by go_num, hn2, below_alloc hB _⟩
     case measure => simp [intOf]
   ·by_cases hq : a0 = 3
    ·have hr : r = ⟨#[98, 111, 111, 108]⟩ := by rw [← H.out]; simp [hq]
     clear H hn
     subst hq
     subst hr
     go_wp2
     go_ret
     exact ⟨rfl, below_alloc hB _⟩
    ·have b1 : ((3 : Int) == a0) = false := beq_eq_false_iff_ne.mpr (fun e => hq e.symm)
     have b2 : (a0 == (3 : Int)) = false := beq_eq_false_iff_ne.mpr hq
     have hn2 : Aside0 (∀ j : Nat, j < 3 → a0 ≠ (j : Int) + 1) := ⟨fun j hj => by
      rcases Nat.lt_or_ge j 2 with h2 | h2
      ·exact hn.out j h2
      ·obtain rfl : j = 2 := by omega
       exact hq⟩
     clear hq hn
     go_wp2
     go_roundw
     case rel => exact ⟨3, by omega, by go_num, hn2, below_alloc hB _⟩
     case measure => simp [intOf]
   ·by_cases hq : a0 = 4
    ·have hr : r = ⟨#[116, 101, 120, 116]⟩ := by rw [← H.out]; simp [hq]
     clear H hn
     subst hq
     subst hr
     go_wp2
     go_ret
     exact ⟨rfl, below_alloc hB _⟩
    ·have b1 : ((4 : Int) == a0) = false := beq_eq_false_iff_ne.mpr (fun e => hq e.symm)
     have b2 : (a0 == (4 : Int)) = false := beq_eq_false_iff_ne.mpr hq
     have hn2 : Aside0 (∀ j : Nat, j < 4 → a0 ≠ (j : Int) + 1) := ⟨fun j hj => by
      rcases Nat.lt_or_ge j 3 with h2 | h2
      ·exact hn.out j h2
      ·obtain rfl : j = 3 := by omega
       exact hq⟩
     clear hq hn
     go_wp2
     go_roundw
     case rel => exact ⟨4, by omega, by go_num, hn2, below_alloc hB _⟩
     case measure => simp [intOf]
   ·by_cases hq : a0 = 5
    ·have hr : r = ⟨#[98, 121, 116, 101, 115]⟩ := by rw [← H.out]; simp [hq]
     clear H hn
     subst hq
     subst hr
     go_wp2
     go_ret
     exact ⟨rfl, below_alloc hB _⟩
    ·have b1 : ((5 : Int) == a0) = false := beq_eq_false_iff_ne.mpr (fun e => hq e.symm)
     have b2 : (a0 == (5 : Int)) = false := beq_eq_false_iff_ne.mpr hq
     have hn2 : Aside0 (∀ j : Nat, j < 5 → a0 ≠ (j : Int) + 1) := ⟨fun j hj => by
      rcases Nat.lt_or_ge j 4 with h2 | h2
      ·exact hn.out j h2
      ·obtain rfl : j = 4 := by omega
       exact hq⟩
     clear hq hn
     go_wp2
     go_roundw
     case rel => exact ⟨5, by omega, by go_num, hn2, below_alloc hB _⟩
     case measure => simp [intOf]
   ·omega
  ·obtain rfl : k = 5 := by omega
   have hr : r = ⟨#[]⟩ := by
    rw [← H.out]
    have g0 : ¬ a0 = 1 := fun e => hn.out 0 (by omega) (by omega)
    have g1 : ¬ a0 = 2 := fun e => hn.out 1 (by omega) (by omega)
    have g2 : ¬ a0 = 3 := fun e => hn.out 2 (by omega) (by omega)
    have g3 : ¬ a0 = 4 := fun e => hn.out 3 (by omega) (by omega)
    have g4 : ¬ a0 = 5 := fun e => hn.out 4 (by omega) (by omega)
    rw [if_neg g0, if_neg g1, if_neg g2, if_neg g3, if_neg g4]
   clear H hn
   subst hr
   go_wp2
   go_ret
   exact ⟨rfl, hB⟩
def stratumref04_Name.f (a0 : Int) : Option (ByteArray) := (stratumref04_name.f a0).bind fun t210 => (some t210)
end Go.Proofs.Ytepkmbbeaaljlaa.X
