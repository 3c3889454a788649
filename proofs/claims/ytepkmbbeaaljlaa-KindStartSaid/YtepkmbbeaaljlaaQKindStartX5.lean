-- Written by wip/printx.py: the kit's printer with functions proved by hand. Not trusted: Lean checks it.
import Derived.Test.YtepkmbbeaaljlaaQKindStartX0
import Derived.Test.YtepkmbbeaaljlaaQKindStartX3
import Derived.Test.YtepkmbbeaaljlaaQKindStartX4
namespace Go.Proofs.Ytepkmbbeaaljlaa.X
open Go.RowKit Go.Proofs.YtepkmbbeaaljlaaW.PrintWords Go.Proofs.YtepkmbbeaaljlaaW.PrintLast Go.Proofs.YtepkmbbeaaljlaaW.PrintMore
attribute [local go_sem] max2_int min2_int max_two min_two max_three min_three max_four min_four
set_option linter.unusedVariables false
set_option linter.unusedSimpArgs false
attribute [local go_sem] vx_gtr vx_leq vx_geq
def kind_place.f (a0 : ByteArray) : Option (Int) := some (if a0.toList = [117, 105, 110, 116] then 1 else if a0.toList = [105, 110, 116] then 2 else if a0.toList = [98, 111, 111, 108] then 3 else if a0.toList = [116, 101, 120, 116] then 4 else if a0.toList = [98, 121, 116, 101, 115] then 5 else 0)
set_option maxHeartbeats 1000000 in
theorem kind_place.calls (a0 : ByteArray) (r : Int) (w : World) (h : kind_place.f a0 = some r) :
  Calls Try.prog 36 #[.string a0] w fun e w' => e = .returned (.int .i64 r) ∧ Below w.heap.size w w' := by
 have H := Aside0.mk (Option.some.inj h)
 clear h
 have i0 := kf_at0
 have i1 := kf_at1
 have i2 := kf_at2
 have i3 := kf_at3
 have i4 := kf_at4
 go_enter Try.func36, Try.ntmps36
 go_wp2_with (go_at_call 38; refine (kf_filled _).mono ?_; rintro e w1 ⟨rfl, hb1⟩)
 go_loopw [6] (fun i wr => ∃ k : Nat, k ≤ 5 ∧ i = .int .i64 k ∧ Aside0 (∀ j, j < k → a0.toList ≠ ([[117, 105, 110, 116], [105, 110, 116], [98, 111, 111, 108], [116, 101, 120, 116], [98, 121, 116, 101, 115]] : List (List UInt8)).getD j []) ∧ Below w.heap.size w wr) (fun i wr => 5 - (intOf i).toNat)
 case atStart => exact ⟨0, by omega, rfl, ⟨fun j hj => by omega⟩, hb1⟩
 case round =>
  obtain ⟨k, hk, rfl, hn, hB⟩ := hrel
  clear hb1
  by_cases hlt : k < 5
  ·rcases k with _ | _ | _ | _ | _ | k
   ·by_cases hq : a0.toList = [117, 105, 110, 116]
    ·have b1 : (([117, 105, 110, 116] : List UInt8) == a0.toList) = true := by rw [hq]; rfl
     have b2 : (a0.toList == ([117, 105, 110, 116] : List UInt8)) = true := by rw [hq]; rfl
     have hr : r = 1 := by rw [← H.out]; simp [hq]
     clear hq H
     subst hr
     go_wp2
     go_ret
     exact ⟨rfl, below_alloc hB _⟩
    ·have b1 : (([117, 105, 110, 116] : List UInt8) == a0.toList) = false := beq_eq_false_iff_ne.mpr (fun e => hq e.symm)
     have b2 : (a0.toList == ([117, 105, 110, 116] : List UInt8)) = false := beq_eq_false_iff_ne.mpr hq
     have hn2 : Aside0 (∀ j, j < 1 → a0.toList ≠ ([[117, 105, 110, 116], [105, 110, 116], [98, 111, 111, 108], [116, 101, 120, 116], [98, 121, 116, 101, 115]] : List (List UInt8)).getD j []) := ⟨fun j hj => by
      rcases Nat.lt_or_ge j 0 with h2 | h2
      ·exact hn.out j h2
      ·obtain rfl : j = 0 := by omega
       exact hq⟩
     clear hq hn
     go_wp2
     go_roundw
     case rel => exact ⟨1, by omega, by go_num, hn2, below_alloc hB _⟩
     case measure => simp [intOf]
   ·by_cases hq : a0.toList = [105, 110, 116]
    ·have b1 : (([105, 110, 116] : List UInt8) == a0.toList) = true := by rw [hq]; rfl
     have b2 : (a0.toList == ([105, 110, 116] : List UInt8)) = true := by rw [hq]; rfl
     have hr : r = 2 := by rw [← H.out]; simp [hq]
     clear hq H
     subst hr
     go_wp2
     go_ret
     exact ⟨rfl, below_alloc hB _⟩
    ·have b1 : (([105, 110, 116] : List UInt8) == a0.toList) = false := beq_eq_false_iff_ne.mpr (fun e => hq e.symm)
     have b2 : (a0.toList == ([105, 110, 116] : List UInt8)) = false := beq_eq_false_iff_ne.mpr hq
     have hn2 : Aside0 (∀ j, j < 2 → a0.toList ≠ ([[117, 105, 110, 116], [105, 110, 116], [98, 111, 111, 108], [116, 101, 120, 116], [98, 121, 116, 101, 115]] : List (List UInt8)).getD j []) := ⟨fun j hj => by
      rcases Nat.lt_or_ge j 1 with h2 | h2
      ·exact hn.out j h2
      ·obtain rfl : j = 1 := by omega
       exact hq⟩
     clear hq hn
     go_wp2
     go_roundw
     case rel => exact ⟨2, by omega, by go_num, hn2, below_alloc hB _⟩
     case measure => simp [intOf]
   ·by_cases hq : a0.toList = [98, 111, 111, 108]
    ·have b1 : (([98, 111, 111, 108] : List UInt8) == a0.toList) = true := by rw [hq]; rfl
     have b2 : (a0.toList == ([98, 111, 111, 108] : List UInt8)) = true := by rw [hq]; rfl
     have hr : r = 3 := by rw [← H.out]; simp [hq]
     clear hq H
     subst hr
     go_wp2
     go_ret
     exact ⟨rfl, below_alloc hB _⟩
    ·have b1 : (([98, 111, 111, 108] : List UInt8) == a0.toList) = false := beq_eq_false_iff_ne.mpr (fun e => hq e.symm)
     have b2 : (a0.toList == ([98, 111, 111, 108] : List UInt8)) = false := beq_eq_false_iff_ne.mpr hq
     have hn2 : Aside0 (∀ j, j < 3 → a0.toList ≠ ([[117, 105, 110, 116], [105, 110, 116], [98, 111, 111, 108], [116, 101, 120, 116], [98, 121, 116, 101, 115]] : List (List UInt8)).getD j []) := ⟨fun j hj => by
      rcases Nat.lt_or_ge j 2 with h2 | h2
      ·exact hn.out j h2
      ·obtain rfl : j = 2 := by omega
       exact hq⟩
     clear hq hn
     go_wp2
     go_roundw
     case rel => exact ⟨3, by omega, by go_num, hn2, below_alloc hB _⟩
     case measure => simp [intOf]
   ·by_cases hq : a0.toList = [116, 101, 120, 116]
    ·have b1 : (([116, 101, 120, 116] : List UInt8) == a0.toList) = true := by rw [hq]; rfl
     have b2 : (a0.toList == ([116, 101, 120, 116] : List UInt8)) = true := by rw [hq]; rfl
     have hr : r = 4 := by rw [← H.out]; simp [hq]
     clear hq H
     subst hr
     go_wp2
     go_ret
     exact ⟨rfl, below_alloc hB _⟩
    ·have b1 : (([116, 101, 120, 116] : List UInt8) == a0.toList) = false := beq_eq_false_iff_ne.mpr (fun e => hq e.symm)
     have b2 : (a0.toList == ([116, 101, 120, 116] : List UInt8)) = false := beq_eq_false_iff_ne.mpr hq
     have hn2 : Aside0 (∀ j, j < 4 → a0.toList ≠ ([[117, 105, 110, 116], [105, 110, 116], [98, 111, 111, 108], [116, 101, 120, 116], [98, 121, 116, 101, 115]] : List (List UInt8)).getD j []) := ⟨fun j hj => by
      rcases Nat.lt_or_ge j 3 with h2 | h2
      ·exact hn.out j h2
      ·obtain rfl : j = 3 := by omega
       exact hq⟩
     clear hq hn
     go_wp2
     go_roundw
     case rel => exact ⟨4, by omega, by go_num, hn2, below_alloc hB _⟩
     case measure => simp [intOf]
   ·by_cases hq : a0.toList = [98, 121, 116, 101, 115]
    ·have b1 : (([98, 121, 116, 101, 115] : List UInt8) == a0.toList) = true := by rw [hq]; rfl
     have b2 : (a0.toList == ([98, 121, 116, 101, 115] : List UInt8)) = true := by rw [hq]; rfl
     have hr : r = 5 := by rw [← H.out]; simp [hq]
     clear hq H
     subst hr
     go_wp2
     go_ret
     exact ⟨rfl, below_alloc hB _⟩
    ·have b1 : (([98, 121, 116, 101, 115] : List UInt8) == a0.toList) = false := beq_eq_false_iff_ne.mpr (fun e => hq e.symm)
     have b2 : (a0.toList == ([98, 121, 116, 101, 115] : List UInt8)) = false := beq_eq_false_iff_ne.mpr hq
     have hn2 : Aside0 (∀ j, j < 5 → a0.toList ≠ ([[117, 105, 110, 116], [105, 110, 116], [98, 111, 111, 108], [116, 101, 120, 116], [98, 121, 116, 101, 115]] : List (List UInt8)).getD j []) := ⟨fun j hj => by
      rcases Nat.lt_or_ge j 4 with h2 | h2
      ·exact hn.out j h2
      ·obtain rfl : j = 4 := by omega
       exact hq⟩
     clear hq hn
     go_wp2
     go_roundw
     case rel => exact ⟨5, by omega, by go_num, hn2, below_alloc hB _⟩
     case measure => simp [intOf]
   ·omega
  ·obtain rfl : k = 5 := by omega
   have hr : r = 0 := by
    rw [← H.out]
    have g0 : ¬ a0.toList = [117, 105, 110, 116] := hn.out 0 (by omega)
    have g1 : ¬ a0.toList = [105, 110, 116] := hn.out 1 (by omega)
    have g2 : ¬ a0.toList = [98, 111, 111, 108] := hn.out 2 (by omega)
    have g3 : ¬ a0.toList = [116, 101, 120, 116] := hn.out 3 (by omega)
    have g4 : ¬ a0.toList = [98, 121, 116, 101, 115] := hn.out 4 (by omega)
    rw [if_neg g0, if_neg g1, if_neg g2, if_neg g3, if_neg g4]
   clear H hn
   subst hr
   go_wp2
   go_ret
   exact ⟨rfl, hB⟩
def kind_Of.f (a0 : ByteArray) : Option (Int) := (kind_place.f a0).bind fun t135 => (some t135)
set_option maxHeartbeats 8000000 in
set_option maxRecDepth 100000 in
theorem kind_Of.calls (a0 : ByteArray) (r : Int) (w : World) (h : kind_Of.f a0 = some r) :
  Calls Try.prog 14 #[.string a0] w fun e w' => e = .returned (.int .i64 r) ∧ Below w.heap.size w w' := by
 have HB := Aside0.mk (Below.refl w.heap.size w)
 have H : ((kind_place.f a0).bind fun t135 => (some t135)) = some r := h
 clear h
 replace H := Option.bind_eq_some_iff.mp H
 obtain ⟨t135, A20, H⟩ := H
 replace H : (some t135) = some r := H
 have A2 := Aside0.mk A20
 clear A20
 obtain rfl := Option.some.inj H
 go_enter Try.func14, Try.ntmps14
 go_wp2_with (first | ((with_reducible refine gate_callee (f := 36) rfl ?_); refine goesL_ (some 4) rfl rfl Try.func36 (by kernel_rfl) rfl #[.string a0] rfl (by (try simp only [List.map_toArray, List.map_cons, List.map_nil]); first | done | rfl | (simp only [List.length_drop, List.length_take]; rfl)) ?_; (with_reducible refine (kind_place.calls a0 t135 _ A2.out).mono ?_); rintro e w3 ⟨rfl, hb⟩; refine ⟨_, rfl, ?_⟩; have n0_ := Aside0.mk (below_step (by repeat (first | (with_reducible first | exact HB.out | apply below_alloc | apply pw_below_drewN | apply below_drew1) | exact HB.out)) hb); clear HB; have HB := n0_; clear n0_; (try clear hb); (try clear hb2); (try clear hk); (try clear hi)))
 go_ret
 exact ⟨by first | rfl | (simp [errW_none, errW_some] <;> rfl) | (simp [*, errW_none, errW_some] <;> rfl), by repeat (first | (with_reducible first | exact HB.out | apply below_alloc | apply pw_below_drewN | apply below_drew1) | exact HB.out)⟩
def kind_Uint.f  : Option (Int) := some 1
set_option maxHeartbeats 8000000 in
set_option maxRecDepth 100000 in
theorem kind_Uint.calls  (r : Int) (w : World) (h : kind_Uint.f  = some r) :
  Calls Try.prog 18 #[] w fun e w' => e = .returned (.int .i64 r) ∧ Drawn0 w w' := by
 have H : (some 1) = some r := h
 clear h
 obtain rfl := Option.some.inj H
 go_enter Try.func18, Try.ntmps18
 go_wp2
 go_ret
 exact ⟨by first | rfl | (simp; done) | (simp [*]; done), by repeat (first | exact Drawn0.refl _ | apply Drawn0.step)⟩
def kind_Int.f  : Option (Int) := some 2
set_option maxHeartbeats 8000000 in
set_option maxRecDepth 100000 in
theorem kind_Int.calls  (r : Int) (w : World) (h : kind_Int.f  = some r) :
  Calls Try.prog 19 #[] w fun e w' => e = .returned (.int .i64 r) ∧ Drawn0 w w' := by
 have H : (some 2) = some r := h
 clear h
 obtain rfl := Option.some.inj H
 go_enter Try.func19, Try.ntmps19
 go_wp2
 go_ret
 exact ⟨by first | rfl | (simp; done) | (simp [*]; done), by repeat (first | exact Drawn0.refl _ | apply Drawn0.step)⟩
def kind_Bool.f  : Option (Int) := some 3
set_option maxHeartbeats 8000000 in
set_option maxRecDepth 100000 in
theorem kind_Bool.calls  (r : Int) (w : World) (h : kind_Bool.f  = some r) :
  Calls Try.prog 20 #[] w fun e w' => e = .returned (.int .i64 r) ∧ Drawn0 w w' := by
 have H : (some 3) = some r := h
 clear h
 obtain rfl := Option.some.inj H
 go_enter Try.func20, Try.ntmps20
 go_wp2
 go_ret
 exact ⟨by first | rfl | (simp; done) | (simp [*]; done), by repeat (first | exact Drawn0.refl _ | apply Drawn0.step)⟩
def kind_Text.f  : Option (Int) := some 4
set_option maxHeartbeats 8000000 in
set_option maxRecDepth 100000 in
theorem kind_Text.calls  (r : Int) (w : World) (h : kind_Text.f  = some r) :
  Calls Try.prog 21 #[] w fun e w' => e = .returned (.int .i64 r) ∧ Drawn0 w w' := by
 have H : (some 4) = some r := h
 clear h
 obtain rfl := Option.some.inj H
 go_enter Try.func21, Try.ntmps21
 go_wp2
 go_ret
 exact ⟨by first | rfl | (simp; done) | (simp [*]; done), by repeat (first | exact Drawn0.refl _ | apply Drawn0.step)⟩
def kind_Bytes.f  : Option (Int) := some 5
set_option maxHeartbeats 8000000 in
set_option maxRecDepth 100000 in
theorem kind_Bytes.calls  (r : Int) (w : World) (h : kind_Bytes.f  = some r) :
  Calls Try.prog 22 #[] w fun e w' => e = .returned (.int .i64 r) ∧ Drawn0 w w' := by
 have H : (some 5) = some r := h
 clear h
 obtain rfl := Option.some.inj H
 go_enter Try.func22, Try.ntmps22
 go_wp2
 go_ret
 exact ⟨by first | rfl | (simp; done) | (simp [*]; done), by repeat (first | exact Drawn0.refl _ | apply Drawn0.step)⟩
def kind_summed.f  : Option (Int) := some 21
set_option maxHeartbeats 1000000 in
theorem kind_summed.calls  (r : Int) (w : World) (h : kind_summed.f  = some r) :
  Calls Try.prog 42 #[] w fun e w' => e = .returned (.int .i64 r) ∧ Below w.heap.size w w' := by
 obtain rfl := Option.some.inj h
 clear h
 have i0 := kf_at0
 have i1 := kf_at1
 have i2 := kf_at2
 have i3 := kf_at3
 have i4 := kf_at4
 go_enter Try.func42, Try.ntmps42
 go_wp2_with (go_at_call 38; refine (kf_filled _).mono ?_; rintro e w1 ⟨rfl, hb1⟩)
 go_loopw [1, 5] (fun s i wr => ∃ k : Nat, k ≤ 5 ∧ i = .int .i64 k ∧ s = .int .i64 (([0, 10, 20, 21, 21, 21] : List Int).getD k 0) ∧ Below w.heap.size w wr) (fun s i wr => 5 - (intOf i).toNat)
 case atStart => exact ⟨0, by omega, rfl, rfl, hb1⟩
 case round =>
  obtain ⟨k, hk, rfl, rfl, hB⟩ := hrel
  clear hb1
  by_cases hlt : k < 5
  ·rcases k with _ | _ | _ | _ | _ | k
   ·go_wp2
    go_roundw
    case rel => exact ⟨1, by omega, by go_num, rfl, below_alloc hB _⟩
    case measure => simp [intOf]
   ·go_wp2
    go_roundw
    case rel => exact ⟨2, by omega, by go_num, rfl, below_alloc hB _⟩
    case measure => simp [intOf]
   ·go_wp2
    go_roundw
    case rel => exact ⟨3, by omega, by go_num, rfl, below_alloc hB _⟩
    case measure => simp [intOf]
   ·go_wp2
    go_roundw
    case rel => exact ⟨4, by omega, by go_num, rfl, below_alloc hB _⟩
    case measure => simp [intOf]
   ·go_wp2
    go_roundw
    case rel => exact ⟨5, by omega, by go_num, rfl, below_alloc hB _⟩
    case measure => simp [intOf]
   ·omega
  ·obtain rfl : k = 5 := by omega
   go_wp2
   go_ret
   exact ⟨rfl, hB⟩
def kind_Width.f  : Option (Int) := (kind_summed.f).bind fun t136 => (some t136)
set_option maxHeartbeats 8000000 in
set_option maxRecDepth 100000 in
theorem kind_Width.calls  (r : Int) (w : World) (h : kind_Width.f  = some r) :
  Calls Try.prog 28 #[] w fun e w' => e = .returned (.int .i64 r) ∧ Below w.heap.size w w' := by
 have HB := Aside0.mk (Below.refl w.heap.size w)
 have H : ((kind_summed.f).bind fun t136 => (some t136)) = some r := h
 clear h
 replace H := Option.bind_eq_some_iff.mp H
 obtain ⟨t136, A10, H⟩ := H
 replace H : (some t136) = some r := H
 have A1 := Aside0.mk A10
 clear A10
 obtain rfl := Option.some.inj H
 go_enter Try.func28, Try.ntmps28
 go_wp2_with (first | ((with_reducible refine gate_callee (f := 42) rfl ?_); refine goesL_ (some 1) rfl rfl Try.func42 (by kernel_rfl) rfl #[] rfl (by (try simp only [List.map_toArray, List.map_cons, List.map_nil]); first | done | rfl | (simp only [List.length_drop, List.length_take]; rfl)) ?_; (with_reducible refine (kind_summed.calls  t136 _ A1.out).mono ?_); rintro e w2 ⟨rfl, hb⟩; refine ⟨_, rfl, ?_⟩; have n0_ := Aside0.mk (below_step (by repeat (first | (with_reducible first | exact HB.out | apply below_alloc | apply pw_below_drewN | apply below_drew1) | exact HB.out)) hb); clear HB; have HB := n0_; clear n0_; (try clear hb); (try clear hb2); (try clear hk); (try clear hi)))
 go_ret
 exact ⟨by first | rfl | (simp [errW_none, errW_some] <;> rfl) | (simp [*, errW_none, errW_some] <;> rfl), by repeat (first | (with_reducible first | exact HB.out | apply below_alloc | apply pw_below_drewN | apply below_drew1) | exact HB.out)⟩
def stratumlaw04_awake0.f (k : Nat)  : Option (Bool) := (kind_Uint.f).bind fun t137 => (if t137 = 1 then ((kind_Int.f).bind fun t138 => (if t138 = 2 then ((kind_Bool.f).bind fun t139 => (if t139 = 3 then ((kind_Text.f).bind fun t140 => (if t140 = 4 then ((kind_Bytes.f).bind fun t141 => (if t141 = 5 then ((kind_Width.f).bind fun t142 => (if t142 = 21 then ((kind_Of.f (⟨#[98, 121, 116, 101, 115]⟩ : ByteArray)).bind fun t143 => (if t143 = 5 then ((kind_Valid.f k 4 0 (⟨#[97]⟩ : ByteArray)).bind fun t144 => (if t144 = true then ((kind_Order.f k 2 18446744073709551615 (⟨#[]⟩ : ByteArray) 2 0 (⟨#[]⟩ : ByteArray)).bind fun t145 => (some (t145 == (-1)))) else (some false))) else (some false))) else (some false))) else (some false))) else (some false))) else (some false))) else (some false))) else (some false))
set_option maxHeartbeats 8000000 in
set_option maxRecDepth 100000 in
theorem stratumlaw04_awake0.calls (k : Nat)  (r : Bool) (w : World) (h : stratumlaw04_awake0.f k  = some r) (hr_ : Aside0 (r = true)) :
  Calls Try.prog 9 #[] w fun e w' => e = .returned (.bool r) ∧ Below w.heap.size w w' := by
 have hu27 := Try.underlying27
 have HB := Aside0.mk (Below.refl w.heap.size w)
 have H : ((kind_Uint.f).bind fun t137 => (if t137 = 1 then ((kind_Int.f).bind fun t138 => (if t138 = 2 then ((kind_Bool.f).bind fun t139 => (if t139 = 3 then ((kind_Text.f).bind fun t140 => (if t140 = 4 then ((kind_Bytes.f).bind fun t141 => (if t141 = 5 then ((kind_Width.f).bind fun t142 => (if t142 = 21 then ((kind_Of.f (⟨#[98, 121, 116, 101, 115]⟩ : ByteArray)).bind fun t143 => (if t143 = 5 then ((kind_Valid.f k 4 0 (⟨#[97]⟩ : ByteArray)).bind fun t144 => (if t144 = true then ((kind_Order.f k 2 18446744073709551615 (⟨#[]⟩ : ByteArray) 2 0 (⟨#[]⟩ : ByteArray)).bind fun t145 => (some (t145 == (-1)))) else (some false))) else (some false))) else (some false))) else (some false))) else (some false))) else (some false))) else (some false))) else (some false))) = some r := h
 clear h
 replace H := Option.bind_eq_some_iff.mp H
 obtain ⟨t137, A10, H⟩ := H
 replace H : (if t137 = 1 then ((kind_Int.f).bind fun t138 => (if t138 = 2 then ((kind_Bool.f).bind fun t139 => (if t139 = 3 then ((kind_Text.f).bind fun t140 => (if t140 = 4 then ((kind_Bytes.f).bind fun t141 => (if t141 = 5 then ((kind_Width.f).bind fun t142 => (if t142 = 21 then ((kind_Of.f (⟨#[98, 121, 116, 101, 115]⟩ : ByteArray)).bind fun t143 => (if t143 = 5 then ((kind_Valid.f k 4 0 (⟨#[97]⟩ : ByteArray)).bind fun t144 => (if t144 = true then ((kind_Order.f k 2 18446744073709551615 (⟨#[]⟩ : ByteArray) 2 0 (⟨#[]⟩ : ByteArray)).bind fun t145 => (some (t145 == (-1)))) else (some false))) else (some false))) else (some false))) else (some false))) else (some false))) else (some false))) else (some false))) else (some false)) = some r := H
 have A1 := Aside0.mk A10
 clear A10
 by_cases c2 : t137 = 1
 ·rw [if_pos c2] at H
  have c2b0 : (t137 == 1) = true := beq_iff_eq.mpr c2
  have c2b1 : (t137 != 1) = false := bne_eq_false_iff_eq.mpr c2
  clear c2
  replace H := Option.bind_eq_some_iff.mp H
  obtain ⟨t138, A30, H⟩ := H
  replace H : (if t138 = 2 then ((kind_Bool.f).bind fun t139 => (if t139 = 3 then ((kind_Text.f).bind fun t140 => (if t140 = 4 then ((kind_Bytes.f).bind fun t141 => (if t141 = 5 then ((kind_Width.f).bind fun t142 => (if t142 = 21 then ((kind_Of.f (⟨#[98, 121, 116, 101, 115]⟩ : ByteArray)).bind fun t143 => (if t143 = 5 then ((kind_Valid.f k 4 0 (⟨#[97]⟩ : ByteArray)).bind fun t144 => (if t144 = true then ((kind_Order.f k 2 18446744073709551615 (⟨#[]⟩ : ByteArray) 2 0 (⟨#[]⟩ : ByteArray)).bind fun t145 => (some (t145 == (-1)))) else (some false))) else (some false))) else (some false))) else (some false))) else (some false))) else (some false))) else (some false)) = some r := H
  have A3 := Aside0.mk A30
  clear A30
  by_cases c4 : t138 = 2
  ·rw [if_pos c4] at H
   have c4b0 : (t138 == 2) = true := beq_iff_eq.mpr c4
   have c4b1 : (t138 != 2) = false := bne_eq_false_iff_eq.mpr c4
   clear c4
   replace H := Option.bind_eq_some_iff.mp H
   obtain ⟨t139, A50, H⟩ := H
   replace H : (if t139 = 3 then ((kind_Text.f).bind fun t140 => (if t140 = 4 then ((kind_Bytes.f).bind fun t141 => (if t141 = 5 then ((kind_Width.f).bind fun t142 => (if t142 = 21 then ((kind_Of.f (⟨#[98, 121, 116, 101, 115]⟩ : ByteArray)).bind fun t143 => (if t143 = 5 then ((kind_Valid.f k 4 0 (⟨#[97]⟩ : ByteArray)).bind fun t144 => (if t144 = true then ((kind_Order.f k 2 18446744073709551615 (⟨#[]⟩ : ByteArray) 2 0 (⟨#[]⟩ : ByteArray)).bind fun t145 => (some (t145 == (-1)))) else (some false))) else (some false))) else (some false))) else (some false))) else (some false))) else (some false)) = some r := H
   have A5 := Aside0.mk A50
   clear A50
   by_cases c6 : t139 = 3
   ·rw [if_pos c6] at H
    have c6b0 : (t139 == 3) = true := beq_iff_eq.mpr c6
    have c6b1 : (t139 != 3) = false := bne_eq_false_iff_eq.mpr c6
    clear c6
    replace H := Option.bind_eq_some_iff.mp H
    obtain ⟨t140, A70, H⟩ := H
    replace H : (if t140 = 4 then ((kind_Bytes.f).bind fun t141 => (if t141 = 5 then ((kind_Width.f).bind fun t142 => (if t142 = 21 then ((kind_Of.f (⟨#[98, 121, 116, 101, 115]⟩ : ByteArray)).bind fun t143 => (if t143 = 5 then ((kind_Valid.f k 4 0 (⟨#[97]⟩ : ByteArray)).bind fun t144 => (if t144 = true then ((kind_Order.f k 2 18446744073709551615 (⟨#[]⟩ : ByteArray) 2 0 (⟨#[]⟩ : ByteArray)).bind fun t145 => (some (t145 == (-1)))) else (some false))) else (some false))) else (some false))) else (some false))) else (some false)) = some r := H
    have A7 := Aside0.mk A70
    clear A70
    by_cases c8 : t140 = 4
    ·rw [if_pos c8] at H
     have c8b0 : (t140 == 4) = true := beq_iff_eq.mpr c8
     have c8b1 : (t140 != 4) = false := bne_eq_false_iff_eq.mpr c8
     clear c8
     replace H := Option.bind_eq_some_iff.mp H
     obtain ⟨t141, A90, H⟩ := H
     replace H : (if t141 = 5 then ((kind_Width.f).bind fun t142 => (if t142 = 21 then ((kind_Of.f (⟨#[98, 121, 116, 101, 115]⟩ : ByteArray)).bind fun t143 => (if t143 = 5 then ((kind_Valid.f k 4 0 (⟨#[97]⟩ : ByteArray)).bind fun t144 => (if t144 = true then ((kind_Order.f k 2 18446744073709551615 (⟨#[]⟩ : ByteArray) 2 0 (⟨#[]⟩ : ByteArray)).bind fun t145 => (some (t145 == (-1)))) else (some false))) else (some false))) else (some false))) else (some false)) = some r := H
     have A9 := Aside0.mk A90
     clear A90
     by_cases c10 : t141 = 5
     ·rw [if_pos c10] at H
      have c10b0 : (t141 == 5) = true := beq_iff_eq.mpr c10
      have c10b1 : (t141 != 5) = false := bne_eq_false_iff_eq.mpr c10
      clear c10
      replace H := Option.bind_eq_some_iff.mp H
      obtain ⟨t142, A110, H⟩ := H
      replace H : (if t142 = 21 then ((kind_Of.f (⟨#[98, 121, 116, 101, 115]⟩ : ByteArray)).bind fun t143 => (if t143 = 5 then ((kind_Valid.f k 4 0 (⟨#[97]⟩ : ByteArray)).bind fun t144 => (if t144 = true then ((kind_Order.f k 2 18446744073709551615 (⟨#[]⟩ : ByteArray) 2 0 (⟨#[]⟩ : ByteArray)).bind fun t145 => (some (t145 == (-1)))) else (some false))) else (some false))) else (some false)) = some r := H
      have A11 := Aside0.mk A110
      clear A110
      by_cases c12 : t142 = 21
      ·rw [if_pos c12] at H
       have c12b0 : (t142 == 21) = true := beq_iff_eq.mpr c12
       have c12b1 : (t142 != 21) = false := bne_eq_false_iff_eq.mpr c12
       clear c12
       replace H := Option.bind_eq_some_iff.mp H
       obtain ⟨t143, A130, H⟩ := H
       replace H : (if t143 = 5 then ((kind_Valid.f k 4 0 (⟨#[97]⟩ : ByteArray)).bind fun t144 => (if t144 = true then ((kind_Order.f k 2 18446744073709551615 (⟨#[]⟩ : ByteArray) 2 0 (⟨#[]⟩ : ByteArray)).bind fun t145 => (some (t145 == (-1)))) else (some false))) else (some false)) = some r := H
       have A13 := Aside0.mk A130
       clear A130
       by_cases c14 : t143 = 5
       ·rw [if_pos c14] at H
        have c14b0 : (t143 == 5) = true := beq_iff_eq.mpr c14
        have c14b1 : (t143 != 5) = false := bne_eq_false_iff_eq.mpr c14
        clear c14
        replace H := Option.bind_eq_some_iff.mp H
        obtain ⟨t144, A150, H⟩ := H
        replace H : (if t144 = true then ((kind_Order.f k 2 18446744073709551615 (⟨#[]⟩ : ByteArray) 2 0 (⟨#[]⟩ : ByteArray)).bind fun t145 => (some (t145 == (-1)))) else (some false)) = some r := H
        have A15 := Aside0.mk A150
        clear A150
        by_cases c16 : t144 = true
        ·subst c16
         have H1 : ((kind_Order.f k 2 18446744073709551615 (⟨#[]⟩ : ByteArray) 2 0 (⟨#[]⟩ : ByteArray)).bind fun t145 => (some (t145 == (-1)))) = some r := by rw [if_pos rfl] at H; exact H
         clear H
         have H := H1
         clear H1
         replace H := Option.bind_eq_some_iff.mp H
         obtain ⟨t145, A170, H⟩ := H
         replace H : (some (t145 == (-1))) = some r := H
         have A17 := Aside0.mk A170
         clear A170
         obtain rfl := Option.some.inj H
         go_enter Try.func9, Try.ntmps9
         go_wp2_with (first | ((with_reducible refine gate_callee (f := 18) rfl ?_); refine goesL_ (some 1) rfl rfl Try.func18 (by kernel_rfl) rfl #[] rfl (by (try simp only [List.map_toArray, List.map_cons, List.map_nil]); first | done | rfl | (simp only [List.length_drop, List.length_take]; rfl)) ?_; (with_reducible refine (kind_Uint.calls  t137 _ A1.out).mono ?_); rintro e w' ⟨rfl, ⟨nd, rfl⟩⟩; refine ⟨_, rfl, ?_⟩) | (go_at_call 19; (with_reducible refine (kind_Int.calls  t138 _ A3.out).mono ?_); rintro e w' ⟨rfl, ⟨nd, rfl⟩⟩) | (go_at_call 20; (with_reducible refine (kind_Bool.calls  t139 _ A5.out).mono ?_); rintro e w' ⟨rfl, ⟨nd, rfl⟩⟩) | (go_at_call 21; (with_reducible refine (kind_Text.calls  t140 _ A7.out).mono ?_); rintro e w' ⟨rfl, ⟨nd, rfl⟩⟩) | (go_at_call 22; (with_reducible refine (kind_Bytes.calls  t141 _ A9.out).mono ?_); rintro e w' ⟨rfl, ⟨nd, rfl⟩⟩) | (go_at_call 28; (with_reducible refine (kind_Width.calls  t142 _ A11.out).mono ?_); rintro e w18 ⟨rfl, hb⟩; have n0_ := Aside0.mk (below_step (by repeat (first | (with_reducible first | exact HB.out | apply below_alloc | apply pw_below_drewN | apply below_drew1) | exact HB.out)) hb); clear HB; have HB := n0_; clear n0_; (try clear hb); (try clear hb2); (try clear hk); (try clear hi)) | (go_at_call 14; (with_reducible refine (kind_Of.calls (⟨#[98, 121, 116, 101, 115]⟩ : ByteArray) t143 _ A13.out).mono ?_); rintro e w19 ⟨rfl, hb⟩; have n0_ := Aside0.mk (below_step (by repeat (first | (with_reducible first | exact HB.out | apply below_alloc | apply pw_below_drewN | apply below_drew1) | exact HB.out)) hb); clear HB; have HB := n0_; clear n0_; (try clear hb); (try clear hb2); (try clear hk); (try clear hi)) | (go_at_call 10; (with_reducible refine (kind_Valid.calls k 4 0 (⟨#[97]⟩ : ByteArray) true _ A15.out).mono ?_); rintro e w20 ⟨rfl, hb⟩; have n0_ := Aside0.mk (below_step (by repeat (first | (with_reducible first | exact HB.out | apply below_alloc | apply pw_below_drewN | apply below_drew1) | exact HB.out)) hb); clear HB; have HB := n0_; clear n0_; (try clear hb); (try clear hb2); (try clear hk); (try clear hi)) | (go_at_call 12; (with_reducible refine (kind_Order.calls k 2 18446744073709551615 (⟨#[]⟩ : ByteArray) 2 0 (⟨#[]⟩ : ByteArray) t145 _ A17.out).mono ?_); rintro e w21 ⟨rfl, hb⟩; have n0_ := Aside0.mk (below_step (by repeat (first | (with_reducible first | exact HB.out | apply below_alloc | apply pw_below_drewN | apply below_drew1) | exact HB.out)) hb); clear HB; have HB := n0_; clear n0_; (try clear hb); (try clear hb2); (try clear hk); (try clear hi)))
         go_ret
         exact ⟨by first | rfl | (simp [errW_none, errW_some] <;> rfl) | (simp [*, errW_none, errW_some] <;> rfl), by repeat (first | (with_reducible first | exact HB.out | apply below_alloc | apply pw_below_drewN | apply below_drew1) | exact HB.out)⟩
        ·replace c16 := Bool.eq_false_iff.mpr c16
         subst c16
         have H1 : (some false) = some r := by rw [if_neg (show ¬ (false = true) by decide)] at H; exact H
         clear H
         have H := H1
         clear H1
         exact absurd ((Option.some.inj H).trans hr_.out) (by simp)
       ·rw [if_neg c14] at H
        have c14b0 : (t143 == 5) = false := beq_eq_false_iff_ne.mpr c14
        have c14b1 : (t143 != 5) = true := bne_iff_ne.mpr c14
        exact absurd ((Option.some.inj H).trans hr_.out) (by simp)
      ·rw [if_neg c12] at H
       have c12b0 : (t142 == 21) = false := beq_eq_false_iff_ne.mpr c12
       have c12b1 : (t142 != 21) = true := bne_iff_ne.mpr c12
       exact absurd ((Option.some.inj H).trans hr_.out) (by simp)
     ·rw [if_neg c10] at H
      have c10b0 : (t141 == 5) = false := beq_eq_false_iff_ne.mpr c10
      have c10b1 : (t141 != 5) = true := bne_iff_ne.mpr c10
      exact absurd ((Option.some.inj H).trans hr_.out) (by simp)
    ·rw [if_neg c8] at H
     have c8b0 : (t140 == 4) = false := beq_eq_false_iff_ne.mpr c8
     have c8b1 : (t140 != 4) = true := bne_iff_ne.mpr c8
     exact absurd ((Option.some.inj H).trans hr_.out) (by simp)
   ·rw [if_neg c6] at H
    have c6b0 : (t139 == 3) = false := beq_eq_false_iff_ne.mpr c6
    have c6b1 : (t139 != 3) = true := bne_iff_ne.mpr c6
    exact absurd ((Option.some.inj H).trans hr_.out) (by simp)
  ·rw [if_neg c4] at H
   have c4b0 : (t138 == 2) = false := beq_eq_false_iff_ne.mpr c4
   have c4b1 : (t138 != 2) = true := bne_iff_ne.mpr c4
   exact absurd ((Option.some.inj H).trans hr_.out) (by simp)
 ·rw [if_neg c2] at H
  have c2b0 : (t137 == 1) = false := beq_eq_false_iff_ne.mpr c2
  have c2b1 : (t137 != 1) = true := bne_iff_ne.mpr c2
  exact absurd ((Option.some.inj H).trans hr_.out) (by simp)
def stratumlaw04_awake.f (k : Nat) : Option Bool := if stratumlaw04_awake0.f k = some true then some true else none
theorem stratumlaw04_awake.calls (k : Nat) (r : Bool) (w : World) (h : stratumlaw04_awake.f k = some r) :
  Calls Try.prog 9 #[] w fun e w' => e = .returned (.bool r) ∧ Below w.heap.size w w' := by
 unfold stratumlaw04_awake.f at h
 by_cases c : stratumlaw04_awake0.f k = some true
 ·rw [if_pos c] at h
  obtain rfl := Option.some.inj h
  exact stratumlaw04_awake0.calls k true w c ⟨rfl⟩
 ·rw [if_neg c] at h
  cases h
def stratumref03_more.f (a0 : Int) (a1 : ByteArray) (a2 : Int) : Option (Int) := if a0 < 0 then (some (-1)) else (if a2 ≥ (a1.size : Int) then (some (-1)) else (if 0 ≤ a2 then (if a2 < (a1.size : Int) then (if (bt a1 a2) < 128 then (some (-1)) else (if (bt a1 a2) > 191 then (some (-1)) else (some (wrap64 ((wrap64 ((wrap64 (a0 * 64)) + (wrap64 (bt a1 a2)))) - 128))))) else (none)) else (none)))
def stratumref03_Put.j0 : Nat → Int → Bool → Option (ByteArray)
 | 0, _, _ => none
 | k + 1, x0, x3 => if x3 = true then (some (⟨#[]⟩ : ByteArray)) else (if x0 < 128 then (some (strOfNums (([(x0) % 256] : List Int)))) else (if x0 < 2048 then (some (strOfNums (([(wrap64 (192 + (wrap64 (Int.tdiv x0 64)))) % 256, (wrap64 (128 + (Int.tmod x0 64))) % 256] : List Int)))) else (if x0 < 65536 then (some (strOfNums (([(wrap64 (224 + (wrap64 (Int.tdiv x0 4096)))) % 256, (wrap64 (128 + (Int.tmod (wrap64 (Int.tdiv x0 64)) 64))) % 256, (wrap64 (128 + (Int.tmod x0 64))) % 256] : List Int)))) else (some (strOfNums (([(wrap64 (240 + (wrap64 (Int.tdiv x0 262144)))) % 256, (wrap64 (128 + (Int.tmod (wrap64 (Int.tdiv x0 4096)) 64))) % 256, (wrap64 (128 + (Int.tmod (wrap64 (Int.tdiv x0 64)) 64))) % 256, (wrap64 (128 + (Int.tmod x0 64))) % 256] : List Int)))))))
def stratumref03_Put.f (k : Nat) (a0 : Int) : Option (ByteArray) := if a0 < 0 then (stratumref03_Put.j0 k a0 true) else (if a0 > 1114111 then (stratumref03_Put.j0 k a0 true) else (if a0 ≥ 55296 then (stratumref03_Put.j0 k a0 (decide (a0 ≤ 57343))) else (stratumref03_Put.j0 k a0 false)))
end Go.Proofs.Ytepkmbbeaaljlaa.X
