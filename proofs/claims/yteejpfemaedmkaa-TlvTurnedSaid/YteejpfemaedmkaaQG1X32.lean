-- Written by wip/printx.py: the kit's printer with functions proved by hand. Not trusted: Lean checks it.
import Derived.Test.YteejpfemaedmkaaQG1X0
import Derived.Test.YteejpfemaedmkaaQG1X22
import Derived.Test.YteejpfemaedmkaaQG1X24
import Derived.Test.YteejpfemaedmkaaQG1X25
namespace Go.Proofs.Yteejpfemaedmkaa.X
open Go.RowKit Go.Proofs.YteejpfemaedmkaaW.PrintWords Go.Proofs.YteejpfemaedmkaaW.PrintLast Go.Proofs.YteejpfemaedmkaaW.PrintMore
attribute [local go_sem] max2_int min2_int max_two min_two max_three min_three max_four min_four
set_option linter.unusedVariables false
set_option linter.unusedSimpArgs false
attribute [local go_sem] vx_gtr vx_leq vx_geq
mutual
def stratumlaw05_TlvTurned.j0 : Nat → List (S53) → Int → Int → List Int → Bool → Option (Bool)
 | 0, _, _, _, _, _ => none
 | k + 1, x0, x1, x2, x7, x33 => if x33 = true then (some true) else (stratumlaw05_TlvTurned.l0 k x0 x1 x2 x7 0)
def stratumlaw05_TlvTurned.l0 : Nat → List (S53) → Int → Int → List Int → Int → Option (Bool)
 | 0, _, _, _, _, _ => none
 | k + 1, x0, x1, x2, x7, x9 => if x9 < 3 then (if 0 ≤ x1 then (if x1 ≤ (x7.length : Int) then ((some (x7.take (x1 : Int).toNat : List Int)).bind fun y781 => (if ([] : List Int).length + y781.length < 140737488355328 then ((some (([] : List Int) ++ y781 : List Int)).bind fun y785 => (if x9 = 0 then (if x1 < (x7.length : Int) then (if y785.length < 140737488355328 then (stratumlaw05_TlvTurned.j2 k x0 x1 x2 x7 x9 (y785 ++ [Go.bits .xor .u8 (rd x7 x1) x2])) else (none)) else (none)) else (if x9 = 1 then (if x1 < (x7.length : Int) then ((some (([x2, rd x7 x1] : List Int) : List Int)).bind fun y793 => (if y785.length + y793.length < 140737488355328 then (stratumlaw05_TlvTurned.j2 k x0 x1 x2 x7 x9 (y785 ++ y793)) else (none))) else (none)) else (stratumlaw05_TlvTurned.j2 k x0 x1 x2 x7 x9 y785)))) else (none))) else (none)) else (none)) else (some true)
def stratumlaw05_TlvTurned.j2 : Nat → List (S53) → Int → Int → List Int → Int → List Int → Option (Bool)
 | 0, _, _, _, _, _, _ => none
 | k + 1, x0, x1, x2, x7, x9, x10 => if 0 ≤ (wrap64 (x1 + 1)) then (if (wrap64 (x1 + 1)) ≤ (x7.length : Int) then ((some (x7.drop ((wrap64 (x1 + 1)) : Int).toNat : List Int)).bind fun y799 => (if x10.length + y799.length < 140737488355328 then ((some (x10 ++ y799 : List Int)).bind fun y803 => ((tlv_Decode.f k y803).bind fun bt806 => (if bt806.2 = 0 then ((stratumlaw05_same.f k bt806.1 x0).bind fun t810 => (if t810 = true then ((stratumlaw05_alike.f y803 x7).bind fun t811 => (if t811 = true then (stratumlaw05_TlvTurned.l0 k x0 x1 x2 x7 (wrap64 (x9 + 1))) else (some false))) else (stratumlaw05_TlvTurned.l0 k x0 x1 x2 x7 (wrap64 (x9 + 1))))) else (stratumlaw05_TlvTurned.l0 k x0 x1 x2 x7 (wrap64 (x9 + 1)))))) else (none))) else (none)) else (none)
end
def stratumlaw05_TlvTurned.f (k : Nat) (l0 : List (S53)) (a1 : Int) (a2 : Int) : Option (Bool) := (stratumlaw05_lives.f k).bind fun t775 => (if t775 = true then ((stratumlaw05_heavy.f k l0).bind fun t776 => (if t776 = true then (some true) else ((tlv_Encode.f k l0).bind fun bt777 => (if bt777.2 = 0 then (if a1 < 0 then (stratumlaw05_TlvTurned.j0 k l0 a1 a2 bt777.1 true) else (stratumlaw05_TlvTurned.j0 k l0 a1 a2 bt777.1 (decide ((bt777.1.length : Int) ≤ a1)))) else (stratumlaw05_TlvTurned.j0 k l0 a1 a2 bt777.1 true))))) else (some false))
set_option maxHeartbeats 8000000 in
set_option maxRecDepth 100000 in
theorem stratumlaw05_TlvTurned.calls (k : Nat) (A0 : Option Addr) (c0 : Nat) (l0 : List (S53)) (a1 : Int) (a2 : Int) (r : Bool) (w : World) (hr0 : Kd.C k53 w A0 l0.length l0) (hc0 : l0.length ≤ c0) (h : stratumlaw05_TlvTurned.f k l0 a1 a2 = some r) (hr_ : Aside0 (r = true)) :
  Calls Try.prog 15 #[.slice A0 l0.length c0, .int .i64 a1, .int .u8 a2] w fun e w' => e = .returned (.bool r) ∧ Below w.heap.size w w' := by
 have HR0 := Aside0.mk hr0
 have HC0 := Aside0.mk hc0
 clear hr0 hc0
 have HB := Aside0.mk (Below.refl w.heap.size w)
 have H : ((stratumlaw05_lives.f k).bind fun t775 => (if t775 = true then ((stratumlaw05_heavy.f k l0).bind fun t776 => (if t776 = true then (some true) else ((tlv_Encode.f k l0).bind fun bt777 => (if bt777.2 = 0 then (if a1 < 0 then (stratumlaw05_TlvTurned.j0 k l0 a1 a2 bt777.1 true) else (stratumlaw05_TlvTurned.j0 k l0 a1 a2 bt777.1 (decide ((bt777.1.length : Int) ≤ a1)))) else (stratumlaw05_TlvTurned.j0 k l0 a1 a2 bt777.1 true))))) else (some false))) = some r := h
 clear h
 replace H := Option.bind_eq_some_iff.mp H
 obtain ⟨t775, A40, H⟩ := H
 replace H : (if t775 = true then ((stratumlaw05_heavy.f k l0).bind fun t776 => (if t776 = true then (some true) else ((tlv_Encode.f k l0).bind fun bt777 => (if bt777.2 = 0 then (if a1 < 0 then (stratumlaw05_TlvTurned.j0 k l0 a1 a2 bt777.1 true) else (stratumlaw05_TlvTurned.j0 k l0 a1 a2 bt777.1 (decide ((bt777.1.length : Int) ≤ a1)))) else (stratumlaw05_TlvTurned.j0 k l0 a1 a2 bt777.1 true))))) else (some false)) = some r := H
 have A4 := Aside0.mk A40
 clear A40
 by_cases c5 : t775 = true
 ·subst c5
  have H1 : ((stratumlaw05_heavy.f k l0).bind fun t776 => (if t776 = true then (some true) else ((tlv_Encode.f k l0).bind fun bt777 => (if bt777.2 = 0 then (if a1 < 0 then (stratumlaw05_TlvTurned.j0 k l0 a1 a2 bt777.1 true) else (stratumlaw05_TlvTurned.j0 k l0 a1 a2 bt777.1 (decide ((bt777.1.length : Int) ≤ a1)))) else (stratumlaw05_TlvTurned.j0 k l0 a1 a2 bt777.1 true))))) = some r := by rw [if_pos rfl] at H; exact H
  clear H
  have H := H1
  clear H1
  replace H := Option.bind_eq_some_iff.mp H
  obtain ⟨t776, A60, H⟩ := H
  replace H : (if t776 = true then (some true) else ((tlv_Encode.f k l0).bind fun bt777 => (if bt777.2 = 0 then (if a1 < 0 then (stratumlaw05_TlvTurned.j0 k l0 a1 a2 bt777.1 true) else (stratumlaw05_TlvTurned.j0 k l0 a1 a2 bt777.1 (decide ((bt777.1.length : Int) ≤ a1)))) else (stratumlaw05_TlvTurned.j0 k l0 a1 a2 bt777.1 true)))) = some r := H
  have A6 := Aside0.mk A60
  clear A60
  by_cases c7 : t776 = true
  ·subst c7
   have H1 : (some true) = some r := by rw [if_pos rfl] at H; exact H
   clear H
   have H := H1
   clear H1
   obtain rfl := Option.some.inj H
   go_enter Try.func15, Try.ntmps15
   go_wp2_with (first | ((with_reducible refine gate_callee (f := 30) rfl ?_); refine goesL_ (some 13) rfl rfl Try.func30 (by kernel_rfl) rfl #[] rfl (by (try simp only [List.map_toArray, List.map_cons, List.map_nil]); first | done | rfl | (simp only [List.length_drop, List.length_take]; rfl)) ?_; (with_reducible refine (stratumlaw05_lives.calls k  true _ A4.out).mono ?_); rintro e w8 ⟨rfl, hb⟩; refine ⟨_, rfl, ?_⟩; have n0_ := Aside0.mk (below_step (by repeat (first | (with_reducible first | exact HB.out | apply below_alloc | apply pw_below_drewN | apply below_drew1) | exact HB.out)) hb); clear HB; have HB := n0_; clear n0_; (try clear hb); (try clear hb2); (try clear hk); (try clear hi)) | ((with_reducible refine gate_callee (f := 31) rfl ?_); refine goesL_ (some 16) rfl rfl Try.func31 (by kernel_rfl) rfl #[.slice A0 l0.length c0] rfl (by (try simp only [List.map_toArray, List.map_cons, List.map_nil]); first | done | rfl | (simp only [List.length_drop, List.length_take]; rfl)) ?_; (with_reducible refine (stratumlaw05_heavy.calls k _ _ l0 true _ ?side1 ?side2 A6.out).mono ?_); (case side1 => repeat (first | exact (Kd.C_below HR0.out HB.out) | (with_reducible refine Kd.C_alloc ?_ _) | (with_reducible refine Kd.C_drewN ?_ _) | (with_reducible refine Kd.C_drew ?_))); (case side2 => exact HC0.out); rintro e w' ⟨rfl, ⟨nd, rfl⟩⟩; refine ⟨_, rfl, ?_⟩))
   go_ret
   exact ⟨by first | rfl | (simp [errW_none, errW_some] <;> rfl) | (simp [*, errW_none, errW_some] <;> rfl), by repeat (first | (with_reducible first | exact HB.out | apply below_alloc | apply pw_below_drewN | apply below_drew1) | exact HB.out)⟩
  ·replace c7 := Bool.eq_false_iff.mpr c7
   subst c7
   have H1 : ((tlv_Encode.f k l0).bind fun bt777 => (if bt777.2 = 0 then (if a1 < 0 then (stratumlaw05_TlvTurned.j0 k l0 a1 a2 bt777.1 true) else (stratumlaw05_TlvTurned.j0 k l0 a1 a2 bt777.1 (decide ((bt777.1.length : Int) ≤ a1)))) else (stratumlaw05_TlvTurned.j0 k l0 a1 a2 bt777.1 true))) = some r := by rw [if_neg (show ¬ (false = true) by decide)] at H; exact H
   clear H
   have H := H1
   clear H1
   replace H := Option.bind_eq_some_iff.mp H
   obtain ⟨⟨t777, t778⟩, A90, H⟩ := H
   replace H : (if t778 = 0 then (if a1 < 0 then (stratumlaw05_TlvTurned.j0 k l0 a1 a2 t777 true) else (stratumlaw05_TlvTurned.j0 k l0 a1 a2 t777 (decide ((t777.length : Int) ≤ a1)))) else (stratumlaw05_TlvTurned.j0 k l0 a1 a2 t777 true)) = some r := H
   have A9 := Aside0.mk A90
   clear A90
   have HC10 := Aside0.mk H
   clear H
   go_enter Try.func15, Try.ntmps15
   go_upto_region 6 with (first | ((with_reducible refine gate_callee (f := 30) rfl ?_); refine goesL_ (some 13) rfl rfl Try.func30 (by kernel_rfl) rfl #[] rfl (by (try simp only [List.map_toArray, List.map_cons, List.map_nil]); first | done | rfl | (simp only [List.length_drop, List.length_take]; rfl)) ?_; (with_reducible refine (stratumlaw05_lives.calls k  true _ A4.out).mono ?_); rintro e w11 ⟨rfl, hb⟩; refine ⟨_, rfl, ?_⟩; have n0_ := Aside0.mk (below_step (by repeat (first | (with_reducible first | exact HB.out | apply below_alloc | apply pw_below_drewN | apply below_drew1) | exact HB.out)) hb); clear HB; have HB := n0_; clear n0_; (try clear hb); (try clear hb2); (try clear hk); (try clear hi)) | ((with_reducible refine gate_callee (f := 31) rfl ?_); refine goesL_ (some 16) rfl rfl Try.func31 (by kernel_rfl) rfl #[.slice A0 l0.length c0] rfl (by (try simp only [List.map_toArray, List.map_cons, List.map_nil]); first | done | rfl | (simp only [List.length_drop, List.length_take]; rfl)) ?_; (with_reducible refine (stratumlaw05_heavy.calls k _ _ l0 false _ ?side1 ?side2 A6.out).mono ?_); (case side1 => repeat (first | exact (Kd.C_below HR0.out HB.out) | (with_reducible refine Kd.C_alloc ?_ _) | (with_reducible refine Kd.C_drewN ?_ _) | (with_reducible refine Kd.C_drew ?_))); (case side2 => exact HC0.out); rintro e w' ⟨rfl, ⟨nd, rfl⟩⟩; refine ⟨_, rfl, ?_⟩) | ((with_reducible refine gate_callee (f := 35) rfl ?_); refine goesL_ (some 19) rfl rfl Try.func35 (by kernel_rfl) rfl #[.slice A0 l0.length c0] rfl (by (try simp only [List.map_toArray, List.map_cons, List.map_nil]); first | done | rfl | (simp only [List.length_drop, List.length_take]; rfl)) ?_; (with_reducible refine (tlv_Encode.calls k _ _ l0 t777 t778 _ ?side1 ?side2 A9.out).mono ?_); (case side1 => repeat (first | exact (Kd.C_below HR0.out (by repeat (first | (with_reducible first | exact HB.out | apply below_alloc | apply pw_below_drewN | apply below_drew1) | exact HB.out))) | (with_reducible refine Kd.C_alloc ?_ _) | (with_reducible refine Kd.C_drewN ?_ _) | (with_reducible refine Kd.C_drew ?_))); (case side2 => exact HC0.out); rintro e w12 ⟨v779, rfl, ho0, hb⟩; refine ⟨_, rfl, ?_⟩; have n0_ := Aside0.mk (Kd.R_lower ho0 (below_size (by repeat (first | (with_reducible first | exact HB.out | apply below_alloc | apply pw_below_drewN | apply below_drew1) | exact HB.out)))); have n1_ := Aside0.mk (below_step (by repeat (first | (with_reducible first | exact HB.out | apply below_alloc | apply pw_below_drewN | apply below_drew1) | exact HB.out)) hb); clear HB; have HO780 := n0_; have HB := n1_; clear n0_ n1_; (try clear hb); (try clear hb2); (try clear hk); (try clear hi); (try clear ho0)))
   (try simp only [Act.put, List.setIfInBounds_toArray, List.set_cons_zero, List.set_cons_succ])
   go_cut [33] (fun v33 wc => ∃ (kq : Nat) (x33_9 : Bool), v33 = .bool x33_9 ∧ Aside0 (stratumlaw05_TlvTurned.j0 kq l0 a1 a2 t777 x33_9 = some r) ∧ Aside0 (kq ≤ k) ∧ Aside0 (Kd.R (Kd.int .u8) 5 wc w.heap.size (fun _ => True) v779 t777) ∧ Aside0 (Below w.heap.size w wc))
   case first =>
    have H := HC10.out
    clear HC10
    by_cases c13 : t778 = 0
    ·rw [if_pos c13] at H
     have c13b0 : (t778 == 0) = true := beq_iff_eq.mpr c13
     have c13b1 : (t778 != 0) = false := bne_eq_false_iff_eq.mpr c13
     clear c13
     (first | rw [c13b0] | (simp only [i64_w, i32_w]; rw [c13b0]) | skip)
     by_cases c14 : a1 < 0
     ·rw [if_pos c14] at H
      have c14b0 : decide (a1 < 0) = true := decide_eq_true c14
      clear c14
      have H' := Aside0.mk H
      clear H
      go_wp2
      go_meet
      case rel => exact ⟨_, (true), (by first | rfl | (simp; done) | (simp [*]; done)), H', ⟨by first | omega | exact Nat.le_refl _⟩, ⟨by (with_reducible repeat (first | apply Kd.R_alloc | apply Kd.R_drewN | apply Kd.R_drew)); exact HO780.out⟩, ⟨by repeat (first | (with_reducible first | exact HB.out | apply below_alloc | apply pw_below_drewN | apply below_drew1) | exact HB.out)⟩⟩
     ·rw [if_neg c14] at H
      have c14b0 : decide (a1 < 0) = false := decide_eq_false c14
      clear c14
      have H' := Aside0.mk H
      clear H
      obtain ⟨Ao15, co15, eo15⟩ := Kd.R_slice HO780.out
      subst eo15
      go_wp2
      go_meet
      case rel => exact ⟨_, (decide ((t777.length : Int) ≤ a1)), (by first | rfl | (simp; done) | (simp [*]; done)), H', ⟨by first | omega | exact Nat.le_refl _⟩, ⟨by (with_reducible repeat (first | apply Kd.R_alloc | apply Kd.R_drewN | apply Kd.R_drew)); exact HO780.out⟩, ⟨by repeat (first | (with_reducible first | exact HB.out | apply below_alloc | apply pw_below_drewN | apply below_drew1) | exact HB.out)⟩⟩
    ·rw [if_neg c13] at H
     have c13b0 : (t778 == 0) = false := beq_eq_false_iff_ne.mpr c13
     have c13b1 : (t778 != 0) = true := bne_iff_ne.mpr c13
     (first | rw [c13b0] | (simp only [i64_w, i32_w]; rw [c13b0]) | skip)
     have H' := Aside0.mk H
     clear H
     go_wp2
     go_meet
     case rel => exact ⟨_, (true), (by first | rfl | (simp; done) | (simp [*]; done)), H', ⟨by first | omega | exact Nat.le_refl _⟩, ⟨by (with_reducible repeat (first | apply Kd.R_alloc | apply Kd.R_drewN | apply Kd.R_drew)); exact HO780.out⟩, ⟨by repeat (first | (with_reducible first | exact HB.out | apply below_alloc | apply pw_below_drewN | apply below_drew1) | exact HB.out)⟩⟩
   case rest =>
    clear HC10
    try clear c1
    try clear p2
    try clear c3
    try clear c5
    try clear c7
    try clear c13
    try clear c13b0
    try clear c13b1
    try clear c14
    try clear c14b0
    try clear c15
    obtain ⟨kq, x33_9, rfl, HA, HJ9, HO_7, HB⟩ := hcut
    cases kq with
    | zero => exact absurd HA.out (by simp [stratumlaw05_TlvTurned.j0])
    | succ kj9 =>
     have H := HA.out
     clear HA
     simp only [stratumlaw05_TlvTurned.j0] at H
     by_cases c16 : x33_9 = true
     ·subst c16
      have H1 : (some true) = some r := by rw [if_pos rfl] at H; exact H
      clear H
      have H := H1
      clear H1
      obtain rfl := Option.some.inj H
      go_wp2
      go_ret
      exact ⟨by first | rfl | (simp [errW_none, errW_some] <;> rfl) | (simp [*, errW_none, errW_some] <;> rfl), by repeat (first | (with_reducible first | exact HB.out | apply below_alloc | apply pw_below_drewN | apply below_drew1) | exact HB.out)⟩
     ·replace c16 := Bool.eq_false_iff.mpr c16
      subst c16
      have H1 : (stratumlaw05_TlvTurned.l0 kj9 l0 a1 a2 t777 0) = some r := by rw [if_neg (show ¬ (false = true) by decide)] at H; exact H
      clear H
      have H := H1
      clear H1
      have H' := Aside0.mk H
      clear H
      go_wp2
      go_loopg [9] kj9 (fun kq v9 w' => ∃ (x9_2 : Int), v9 = .int .i64 x9_2 ∧ Aside0 (stratumlaw05_TlvTurned.l0 kq l0 a1 a2 t777 x9_2 = some r) ∧ Aside0 (kq ≤ kj9) ∧ Aside0 (Kd.R (Kd.int .u8) 5 w' w.heap.size (fun _ => True) v779 t777) ∧ Aside0 (Below w.heap.size w w'))
      case atStart => exact ⟨(0), (by first | rfl | (simp; done) | (simp [*]; done)), H', ⟨Nat.le_refl _⟩, ⟨by (with_reducible repeat (first | apply Kd.R_alloc | apply Kd.R_drewN | apply Kd.R_drew)); exact HO_7.out⟩, ⟨by repeat (first | (with_reducible first | exact HB.out | apply below_alloc | apply pw_below_drewN | apply below_drew1) | exact HB.out)⟩⟩
      case round =>
       clear H'
       try clear c1
       try clear p2
       try clear c3
       try clear c5
       try clear c7
       try clear c13
       try clear c13b0
       try clear c13b1
       try clear c14
       try clear c14b0
       try clear c15
       try clear c16
       try clear p2
       obtain ⟨x9_2, rfl, HA, HK2, HO_7, HB⟩ := hrel
       cases gk with
       | zero => exact absurd HA.out (by simp [stratumlaw05_TlvTurned.l0])
       | succ k2 =>
        have H := HA.out
        clear HA
        simp only [stratumlaw05_TlvTurned.l0] at H
        by_cases c17 : x9_2 < 3
        ·rw [if_pos c17] at H
         have c17b0 : decide (x9_2 < 3) = true := decide_eq_true c17
         clear c17
         by_cases c18 : 0 ≤ a1
         ·rw [if_pos c18] at H
          have c18b0 := eq_true c18
          have c18b1 : decide (0 ≤ a1) = true := decide_eq_true c18
          clear c18
          by_cases c19 : a1 ≤ (t777.length : Int)
          ·rw [if_pos c19] at H
           have c19b0 := eq_true c19
           have c19b1 : decide (a1 ≤ (t777.length : Int)) = true := decide_eq_true c19
           clear c19
           obtain ⟨y781, hy781⟩ : ∃ y_ : List Int, y_ = (t777.take (a1 : Int).toNat) := ⟨_, rfl⟩
           replace H : (if ([] : List Int).length + y781.length < 140737488355328 then ((some (([] : List Int) ++ y781 : List Int)).bind fun y785 => (if x9_2 = 0 then (if a1 < (t777.length : Int) then (if y785.length < 140737488355328 then (stratumlaw05_TlvTurned.j2 k2 l0 a1 a2 t777 x9_2 (y785 ++ [Go.bits .xor .u8 (rd t777 a1) a2])) else (none)) else (none)) else (if x9_2 = 1 then (if a1 < (t777.length : Int) then ((some (([a2, rd t777 a1] : List Int) : List Int)).bind fun y793 => (if y785.length + y793.length < 140737488355328 then (stratumlaw05_TlvTurned.j2 k2 l0 a1 a2 t777 x9_2 (y785 ++ y793)) else (none))) else (none)) else (stratumlaw05_TlvTurned.j2 k2 l0 a1 a2 t777 x9_2 y785)))) else (none)) = some r := by first | (rw [hy781]; with_reducible exact H) | (have H2_ := (Option.bind_some _ _).symm.trans H; rw [hy781]; with_reducible exact H2_) | (have H2_ := (Option.bind_some _ _).symm.trans H; with_reducible exact H2_) | with_reducible exact H | (rw [hy781]; exact H) | exact H
           have Ny781 := Aside0.mk hy781
           clear hy781
           by_cases c20 : ([] : List Int).length + y781.length < 140737488355328
           ·rw [if_pos c20] at H
            have LMc20 := Aside0.mk c20
            clear c20
            obtain ⟨y785, hy785⟩ : ∃ y_ : List Int, y_ = (([] : List Int) ++ y781) := ⟨_, rfl⟩
            replace H : (if x9_2 = 0 then (if a1 < (t777.length : Int) then (if y785.length < 140737488355328 then (stratumlaw05_TlvTurned.j2 k2 l0 a1 a2 t777 x9_2 (y785 ++ [Go.bits .xor .u8 (rd t777 a1) a2])) else (none)) else (none)) else (if x9_2 = 1 then (if a1 < (t777.length : Int) then ((some (([a2, rd t777 a1] : List Int) : List Int)).bind fun y793 => (if y785.length + y793.length < 140737488355328 then (stratumlaw05_TlvTurned.j2 k2 l0 a1 a2 t777 x9_2 (y785 ++ y793)) else (none))) else (none)) else (stratumlaw05_TlvTurned.j2 k2 l0 a1 a2 t777 x9_2 y785))) = some r := by first | (rw [hy785]; with_reducible exact H) | (have H2_ := (Option.bind_some _ _).symm.trans H; rw [hy785]; with_reducible exact H2_) | (have H2_ := (Option.bind_some _ _).symm.trans H; with_reducible exact H2_) | with_reducible exact H | (rw [hy785]; exact H) | exact H
            have Ny785 := Aside0.mk hy785
            clear hy785
            have HC21 := Aside0.mk H
            clear H
            obtain ⟨Ao23, co23, eo23⟩ := Kd.R_slice HO_7.out
            subst eo23
            have q22 : (a1 : Int) ≤ ((t777.length : Int) : Int) := of_decide_eq_true (by first | (with_reducible assumption) | assumption)
            obtain ⟨i022, hi022, _, hsz22, _⟩ := info_parts info5
            have hroom22 : t777.length ≤ co23 := (Kd.R_reads' HO_7.out).2.1
            have hC22 : Kd.C (Kd.int .u8) _ Ao23 t777.length t777 := (Kd.R_reads' HO_7.out).2.2
            have hcut22 := cut_to (P := Try.prog) 63 5 .i64 Try.underlying63 hi022 Ao23 t777.length co23 a1 (of_decide_eq_true (by first | (with_reducible assumption) | assumption)) q22 hroom22
            have hr22 := Kd.C_take (m := (a1 : Int).toNat) hC22 (by omega)
            have hy22 : y781.length = (a1 : Int).toNat := (by rw [Ny781.out, List.length_take]; omega)
            rw [← Ny781.out] at hr22
            rw [← hy22] at hcut22
            have HR784 := Aside0.mk hr22
            have HC784 := Aside0.mk (show y781.length ≤ co23 from by omega)
            clear hr22 hC22 hroom22 hi022 hsz22
            have KY22 := Aside0.mk hy22
            clear hy22
            have KL22 := Aside0.mk (show (a1 : Int).toNat ≤ t777.length from by omega)
            replace q22 := eq_true q22
            go_upto_block 2 with (first | ((with_reducible refine gate_builtin (b := .append) (xs := #[.tmp 38, .tmp 41]) rfl ?_); (try (refine gate_guard (by rfl) ?_; dsimp only)); at_builtin; refine Kd.R_append_rows (Kd.int .u8) (w0 := w) w.heap.size rfl (.tmp 38) (.tmp 41) 63 5 (.int .u8 0) 1 rfl Try.underlying63 info5 rfl (by decide) (by omega) (.slice none 0 0) ([] : List Int) y781 _ _ _ (fun k_ => some k_ ≠ (.slice Ao23 t777.length co23 : Value).ownBlock) (fun _ => False) rfl rfl ?aO ?aR (fun _ _ h => h) (fun _ h => h.elim) ?aF ?aB ?aS ?aL ?_; (case aR => repeat (first | exact (by repeat (first | (with_reducible exact HR784.out) | (with_reducible refine Kd.C_alloc ?_ _) | (with_reducible refine Kd.C_drewN ?_ _) | (with_reducible refine Kd.C_drew ?_) | exact HR784.out)) | (with_reducible refine Kd.C_alloc ?_ _) | (with_reducible refine Kd.C_drewN ?_ _) | (with_reducible refine Kd.C_drew ?_))); (case aB => exact (by repeat (first | (with_reducible first | exact HB.out | apply below_alloc | apply pw_below_drewN | apply below_drew1) | exact HB.out))); (case aF => exact (fun k_ hk => Kd.fresh' (Kd.R_lt (by (with_reducible repeat (first | apply Kd.R_alloc | apply Kd.R_drewN | apply Kd.R_drew)); exact HO_7.out)) k_ hk)); (case aO => exact ((Kd.R_nil _ _ _ _ (fun k_ => some k_ ≠ (.slice Ao23 t777.length co23 : Value).ownBlock)))); (case aS => exact (below_size (by repeat (first | (with_reducible first | exact HB.out | apply below_alloc | apply pw_below_drewN | apply below_drew1) | exact HB.out)))); (case aL => have := LMc20.out; omega); intro v786 w24 ho hb hg hat; rw [← Ny785.out] at ho; have n0_ := Aside0.mk (Kd.R_after (Kd.R_apart_nil (by (with_reducible repeat (first | apply Kd.R_alloc | apply Kd.R_drewN | apply Kd.R_drew)); exact HO_7.out)) hg hat); have n1_ := Aside0.mk (hb); have n2_ := Aside0.mk ((show Kd.C (Kd.int .u8) w24 Ao23 y781.length y781 from by rw [Ny781.out]; exact Kd.C_take (m := (a1 : Int).toNat) ((Kd.R_reads' (Kd.R_after (Kd.R_apart_nil (by (with_reducible repeat (first | apply Kd.R_alloc | apply Kd.R_drewN | apply Kd.R_drew)); exact HO_7.out)) hg hat)).2.2) KL22.out)); have n3_ := Aside0.mk (ho); clear HO_7; clear HB; clear HR784; have HO_7 := n0_; have HB := n1_; have HR784 := n2_; have HO787 := n3_; clear n0_ n1_ n2_ n3_; clear ho hb hg hat))
            (try simp only [Act.put, List.setIfInBounds_toArray, List.set_cons_zero, List.set_cons_succ])
            go_cut [10] (fun v10 wc => ∃ (kq : Nat) (x10_20 : List Int), Aside0 (stratumlaw05_TlvTurned.j2 kq l0 a1 a2 t777 x9_2 x10_20 = some r) ∧ Aside0 (kq ≤ k2) ∧ Aside0 (Kd.R (Kd.int .u8) 5 wc w.heap.size (fun k_ => some k_ ≠ (v10 : Value).ownBlock) (.slice Ao23 t777.length co23) t777) ∧ Aside0 (Kd.R (Kd.int .u8) 5 wc w.heap.size (fun k_ => some k_ ≠ ((.slice Ao23 t777.length co23) : Value).ownBlock) v10 x10_20) ∧ Aside0 (Kd.C (Kd.int .u8) wc Ao23 y781.length y781) ∧ Aside0 (Below w.heap.size w wc))
            case first =>
             have H := HC21.out
             clear HC21
             by_cases c25 : x9_2 = 0
             ·rw [if_pos c25] at H
              have c25b0 : (x9_2 == 0) = true := beq_iff_eq.mpr c25
              have c25b1 : (x9_2 != 0) = false := bne_eq_false_iff_eq.mpr c25
              clear c25
              (first | rw [c25b0] | (simp only [i64_w, i32_w]; rw [c25b0]) | skip)
              by_cases c26 : a1 < (t777.length : Int)
              ·rw [if_pos c26] at H
               have c26b0 : decide (a1 < (t777.length : Int)) = true := decide_eq_true c26
               clear c26
               by_cases c27 : y785.length < 140737488355328
               ·rw [if_pos c27] at H
                have LMc27 := Aside0.mk c27
                clear c27
                obtain ⟨y789, hy789⟩ : ∃ y_ : List Int, y_ = (y785 ++ [Go.bits .xor .u8 (rd t777 a1) a2]) := ⟨_, rfl⟩
                replace H : (stratumlaw05_TlvTurned.j2 k2 l0 a1 a2 t777 x9_2 y789) = some r := by first | (rw [hy789]; with_reducible exact H) | (have H2_ := (Option.bind_some _ _).symm.trans H; rw [hy789]; with_reducible exact H2_) | (have H2_ := (Option.bind_some _ _).symm.trans H; with_reducible exact H2_) | with_reducible exact H | (rw [hy789]; exact H) | exact H
                have Ny789 := Aside0.mk hy789
                clear hy789
                have H' := Aside0.mk H
                clear H
                have p788 : 0 ≤ (a1 : Int) := of_decide_eq_true (by first | (with_reducible assumption) | assumption)
                have q788 : a1 < (t777.length : Int) := of_decide_eq_true (by first | (with_reducible assumption) | assumption)
                obtain ⟨ad788, e788, hx788_0⟩ := Kd.at_int (Kd.R_reads' HO_7.out).2.2 a1 p788 q788
                cases e788
                replace p788 := eq_true p788
                replace q788 := eq_true q788
                go_wp2_with (first | ((with_reducible refine gate_builtin (b := .append) (xs := #[.tmp 46, .tmp 53]) rfl ?_); (try (refine gate_guard (by rfl) ?_; dsimp only)); at_builtin; refine Kd.R_append (Kd.int .u8) (w0 := w) w.heap.size rfl (.tmp 46) (.tmp 53) 63 5 (.int .u8 0) 1 rfl Try.underlying63 info5 rfl (by decide) (by omega) v786 y785 (Go.bits .xor .u8 (rd t777 a1) a2) [.int .u8 (Go.bits .xor .u8 (rd t777 a1) a2)] (fun k_ => some k_ ≠ (.slice (some ad788) t777.length co23 : Value).ownBlock) (fun _ => False) rfl rfl ?aP (fun _ hk => hk.elim) ?aF ?aO ?aB ?aS ?aL ?_; (case aP => exact rfl); (case aB => exact (by repeat (first | (with_reducible first | exact HB.out | apply below_alloc | apply pw_below_drewN | apply below_drew1) | exact HB.out))); (case aF => exact (fun k_ hk => Kd.fresh' (Kd.R_lt (by (with_reducible repeat (first | apply Kd.R_alloc | apply Kd.R_drewN | apply Kd.R_drew)); exact HO_7.out)) k_ hk)); (case aO => exact (by (with_reducible repeat (first | apply Kd.R_alloc | apply Kd.R_drewN | apply Kd.R_drew)); exact HO787.out)); (case aS => exact (below_size (by repeat (first | (with_reducible first | exact HB.out | apply below_alloc | apply pw_below_drewN | apply below_drew1) | exact HB.out)))); (case aL => have := LMc27.out; omega); intro v790 w28 ho hb hg hat; rw [← Ny789.out] at ho; have n0_ := Aside0.mk (Kd.R_after (ok := (fun _ => True)) (by (with_reducible repeat (first | apply Kd.R_alloc | apply Kd.R_drewN | apply Kd.R_drew)); exact HO_7.out) hg hat); have n1_ := Aside0.mk (hb); have n2_ := Aside0.mk ((show Kd.C (Kd.int .u8) w28 (some ad788) y781.length y781 from by rw [Ny781.out]; exact Kd.C_take (m := (a1 : Int).toNat) ((Kd.R_reads' (Kd.R_after (ok := (fun _ => True)) (by (with_reducible repeat (first | apply Kd.R_alloc | apply Kd.R_drewN | apply Kd.R_drew)); exact HO_7.out) hg hat)).2.2) KL22.out)); have n3_ := Aside0.mk (ho); clear HO_7; clear HB; clear HR784; clear HO787; have HO_7 := n0_; have HB := n1_; have HR784 := n2_; have HO791 := n3_; clear n0_ n1_ n2_ n3_; clear ho hb hg hat))
                go_meet
                case rel => exact ⟨_, (y789), H', ⟨by have := HJ9.out; have := HK2.out; first | omega | exact Nat.le_refl _⟩, ⟨by (with_reducible repeat (first | apply Kd.R_alloc | apply Kd.R_drewN | apply Kd.R_drew)); exact Kd.R_mono HO_7.out (fun _ hk => hk.2)⟩, ⟨by (with_reducible repeat (first | apply Kd.R_alloc | apply Kd.R_drewN | apply Kd.R_drew)); exact HO791.out⟩, ⟨by repeat (first | (with_reducible exact HR784.out) | (with_reducible refine Kd.C_alloc ?_ _) | (with_reducible refine Kd.C_drewN ?_ _) | (with_reducible refine Kd.C_drew ?_) | exact HR784.out)⟩, ⟨by repeat (first | (with_reducible first | exact HB.out | apply below_alloc | apply pw_below_drewN | apply below_drew1) | exact HB.out)⟩⟩
               ·rw [if_neg c27] at H
                exact absurd H (by simp)
              ·rw [if_neg c26] at H
               exact absurd H (by simp)
             ·rw [if_neg c25] at H
              have c25b0 : (x9_2 == 0) = false := beq_eq_false_iff_ne.mpr c25
              have c25b1 : (x9_2 != 0) = true := bne_iff_ne.mpr c25
              (first | rw [c25b0] | (simp only [i64_w, i32_w]; rw [c25b0]) | skip)
              by_cases c29 : x9_2 = 1
              ·rw [if_pos c29] at H
               have c29b0 : (x9_2 == 1) = true := beq_iff_eq.mpr c29
               have c29b1 : (x9_2 != 1) = false := bne_eq_false_iff_eq.mpr c29
               clear c29
               by_cases c30 : a1 < (t777.length : Int)
               ·rw [if_pos c30] at H
                have c30b0 : decide (a1 < (t777.length : Int)) = true := decide_eq_true c30
                clear c30
                obtain ⟨y793, hy793⟩ : ∃ y_ : List Int, y_ = (([a2, rd t777 a1] : List Int)) := ⟨_, rfl⟩
                replace H : (if y785.length + y793.length < 140737488355328 then (stratumlaw05_TlvTurned.j2 k2 l0 a1 a2 t777 x9_2 (y785 ++ y793)) else (none)) = some r := by first | (rw [hy793]; with_reducible exact H) | (have H2_ := (Option.bind_some _ _).symm.trans H; rw [hy793]; with_reducible exact H2_) | (have H2_ := (Option.bind_some _ _).symm.trans H; with_reducible exact H2_) | with_reducible exact H | (rw [hy793]; exact H) | exact H
                have Ny793 := Aside0.mk hy793
                clear hy793
                by_cases c31 : y785.length + y793.length < 140737488355328
                ·rw [if_pos c31] at H
                 have LMc31 := Aside0.mk c31
                 clear c31
                 obtain ⟨y796, hy796⟩ : ∃ y_ : List Int, y_ = (y785 ++ y793) := ⟨_, rfl⟩
                 replace H : (stratumlaw05_TlvTurned.j2 k2 l0 a1 a2 t777 x9_2 y796) = some r := by first | (rw [hy796]; with_reducible exact H) | (have H2_ := (Option.bind_some _ _).symm.trans H; rw [hy796]; with_reducible exact H2_) | (have H2_ := (Option.bind_some _ _).symm.trans H; with_reducible exact H2_) | with_reducible exact H | (rw [hy796]; exact H) | exact H
                 have Ny796 := Aside0.mk hy796
                 clear hy796
                 have H' := Aside0.mk H
                 clear H
                 have p792 : 0 ≤ (a1 : Int) := of_decide_eq_true (by first | (with_reducible assumption) | assumption)
                 have q792 : a1 < (t777.length : Int) := of_decide_eq_true (by first | (with_reducible assumption) | assumption)
                 obtain ⟨ad792, e792, hx792_0⟩ := Kd.at_int (Kd.R_reads' HO_7.out).2.2 a1 p792 q792
                 cases e792
                 replace p792 := eq_true p792
                 replace q792 := eq_true q792
                 go_wp2_with (first | ((with_reducible refine gate_dst (N := 63) rfl ?_); (try (refine gate_guard (by rfl) ?_; dsimp only)); refine Kd.R_lit (Kd.int .u8) _ 5 ?hg (N := 63) ?hd (xs := ([a2, rd t777 a1] : List Int)) (inner := [.int .u8 a2, .int .u8 (rd t777 a1)]) (ok := fun _ => True) (okp := fun _ => True) ?hr ?hp (fun _ hk => hk) trivial (Below.refl _ _) (Nat.le_refl _) (by simp) ?_; (case hd => rfl); (case hg => rfl); (case hr => first | (go_simp; done) | (go_simp; rfl)); (case hp => exact (Reps.one (show Kd.M (Kd.int .u8) _ _ _ a2 [.int .u8 a2] from rfl) (Reps.one (show Kd.M (Kd.int .u8) _ _ _ (rd t777 a1) [.int .u8 (rd t777 a1)] from rfl) (Reps.none _ _)))); intro v794 w32 ho33 hb hg_ hnew_; clear hg_ hnew_; (first | rw [← Ny793.out] at ho33 | (simp only [Int.reduceToNat] at ho33; rw [← Ny793.out] at ho33)); have n0_ := Aside0.mk (Kd.R_elder' (by (with_reducible repeat (first | apply Kd.R_alloc | apply Kd.R_drewN | apply Kd.R_drew)); exact HO_7.out) (Kd.R_base ho33) hb); have n1_ := Aside0.mk (Kd.R_elder' (by (with_reducible repeat (first | apply Kd.R_alloc | apply Kd.R_drewN | apply Kd.R_drew)); exact HO787.out) (Kd.R_base ho33) hb); have n2_ := Aside0.mk (Kd.R_lower (Kd.R_new' (Kd.R_new' ho33 (Kd.R_lt (by (with_reducible repeat (first | apply Kd.R_alloc | apply Kd.R_drewN | apply Kd.R_drew)); exact HO_7.out))) (Kd.R_lt (by (with_reducible repeat (first | apply Kd.R_alloc | apply Kd.R_drewN | apply Kd.R_drew)); exact HO787.out))) (below_size (by repeat (first | (with_reducible first | exact HB.out | apply below_alloc | apply pw_below_drewN | apply below_drew1) | exact HB.out)))); have n3_ := Aside0.mk (Kd.C_below (by repeat (first | (with_reducible exact HR784.out) | (with_reducible refine Kd.C_alloc ?_ _) | (with_reducible refine Kd.C_drewN ?_ _) | (with_reducible refine Kd.C_drew ?_) | exact HR784.out)) hb); have n4_ := Aside0.mk (below_step (by repeat (first | (with_reducible first | exact HB.out | apply below_alloc | apply pw_below_drewN | apply below_drew1) | exact HB.out)) hb); clear HO_7; clear HO787; clear HR784; clear HB; have HO_7 := n0_; have HO787 := n1_; have HO795 := n2_; have HR784 := n3_; have HB := n4_; clear n0_ n1_ n2_ n3_ n4_; clear hb ho33; obtain ⟨Ao35, co35, eo35⟩ := Kd.R_slice HO795.out; subst eo35) | ((with_reducible refine gate_builtin (b := .append) (xs := #[.tmp 57, .tmp 63]) rfl ?_); (try (refine gate_guard (by rfl) ?_; dsimp only)); at_builtin; refine Kd.R_append_rows (Kd.int .u8) (w0 := w) w.heap.size rfl (.tmp 57) (.tmp 63) 63 5 (.int .u8 0) 1 rfl Try.underlying63 info5 rfl (by decide) (by omega) v786 y785 y793 _ _ _ (fun k_ => some k_ ≠ (.slice (some ad792) t777.length co23 : Value).ownBlock ∧ some k_ ≠ (.slice Ao35 y793.length co35 : Value).ownBlock) (fun _ => False) rfl rfl ?aO ?aR (fun _ _ h => h) (fun _ h => h.elim) ?aF ?aB ?aS ?aL ?_; (case aR => repeat (first | exact (Kd.R_reads' HO795.out).2.2 | (with_reducible refine Kd.C_alloc ?_ _) | (with_reducible refine Kd.C_drewN ?_ _) | (with_reducible refine Kd.C_drew ?_))); (case aB => exact (by repeat (first | (with_reducible first | exact HB.out | apply below_alloc | apply pw_below_drewN | apply below_drew1) | exact HB.out))); (case aF => exact (fun k_ hk => ⟨Kd.fresh' (Kd.R_lt (by (with_reducible repeat (first | apply Kd.R_alloc | apply Kd.R_drewN | apply Kd.R_drew)); exact HO_7.out)) k_ hk, Kd.fresh' (Kd.R_lt (by (with_reducible repeat (first | apply Kd.R_alloc | apply Kd.R_drewN | apply Kd.R_drew)); exact HO795.out)) k_ hk⟩)); (case aO => exact (by (with_reducible repeat (first | apply Kd.R_alloc | apply Kd.R_drewN | apply Kd.R_drew)); exact HO787.out)); (case aS => exact (below_size (by repeat (first | (with_reducible first | exact HB.out | apply below_alloc | apply pw_below_drewN | apply below_drew1) | exact HB.out)))); (case aL => have := LMc31.out; omega); intro v797 w34 ho hb hg hat; rw [← Ny796.out] at ho; have n0_ := Aside0.mk (Kd.R_after (ok := (fun k_ => some k_ ≠ (.slice Ao35 y793.length co35 : Value).ownBlock)) (by (with_reducible repeat (first | apply Kd.R_alloc | apply Kd.R_drewN | apply Kd.R_drew)); exact Kd.R_mono HO_7.out (fun _ hk => ⟨hk.2, hk.1.2⟩)) hg hat); have n1_ := Aside0.mk (Kd.R_after (ok := (fun k_ => some k_ ≠ (.slice (some ad792) t777.length co23 : Value).ownBlock)) (by (with_reducible repeat (first | apply Kd.R_alloc | apply Kd.R_drewN | apply Kd.R_drew)); exact Kd.R_mono HO795.out (fun _ hk => ⟨hk.1.2, hk.2⟩)) hg hat); have n2_ := Aside0.mk (hb); have n3_ := Aside0.mk ((show Kd.C (Kd.int .u8) w34 (some ad792) y781.length y781 from by rw [Ny781.out]; exact Kd.C_take (m := (a1 : Int).toNat) ((Kd.R_reads' (Kd.R_after (ok := (fun k_ => some k_ ≠ (.slice Ao35 y793.length co35 : Value).ownBlock)) (by (with_reducible repeat (first | apply Kd.R_alloc | apply Kd.R_drewN | apply Kd.R_drew)); exact Kd.R_mono HO_7.out (fun _ hk => ⟨hk.2, hk.1.2⟩)) hg hat)).2.2) KL22.out)); have n4_ := Aside0.mk (ho); clear HO_7; clear HO795; clear HB; clear HR784; clear HO787; have HO_7 := n0_; have HO795 := n1_; have HB := n2_; have HR784 := n3_; have HO798 := n4_; clear n0_ n1_ n2_ n3_ n4_; clear ho hb hg hat))
                 go_meet
                 case rel => exact ⟨_, (y796), H', ⟨by have := HJ9.out; have := HK2.out; first | omega | exact Nat.le_refl _⟩, ⟨by (with_reducible repeat (first | apply Kd.R_alloc | apply Kd.R_drewN | apply Kd.R_drew)); exact Kd.R_mono HO_7.out (fun _ hk => hk.2)⟩, ⟨by (with_reducible repeat (first | apply Kd.R_alloc | apply Kd.R_drewN | apply Kd.R_drew)); exact Kd.R_mono HO798.out (fun _ hk => hk.1)⟩, ⟨by repeat (first | (with_reducible exact HR784.out) | (with_reducible refine Kd.C_alloc ?_ _) | (with_reducible refine Kd.C_drewN ?_ _) | (with_reducible refine Kd.C_drew ?_) | exact HR784.out)⟩, ⟨by repeat (first | (with_reducible first | exact HB.out | apply below_alloc | apply pw_below_drewN | apply below_drew1) | exact HB.out)⟩⟩
                ·rw [if_neg c31] at H
                 exact absurd H (by simp)
               ·rw [if_neg c30] at H
                exact absurd H (by simp)
              ·rw [if_neg c29] at H
               have c29b0 : (x9_2 == 1) = false := beq_eq_false_iff_ne.mpr c29
               have c29b1 : (x9_2 != 1) = true := bne_iff_ne.mpr c29
               have H' := Aside0.mk H
               clear H
               go_wp2
               go_meet
               case rel => exact ⟨_, (y785), H', ⟨by have := HJ9.out; have := HK2.out; first | omega | exact Nat.le_refl _⟩, ⟨by (with_reducible repeat (first | apply Kd.R_alloc | apply Kd.R_drewN | apply Kd.R_drew)); exact Kd.R_mono HO_7.out (fun _ hk => hk.2)⟩, ⟨by (with_reducible repeat (first | apply Kd.R_alloc | apply Kd.R_drewN | apply Kd.R_drew)); exact HO787.out⟩, ⟨by repeat (first | (with_reducible exact HR784.out) | (with_reducible refine Kd.C_alloc ?_ _) | (with_reducible refine Kd.C_drewN ?_ _) | (with_reducible refine Kd.C_drew ?_) | exact HR784.out)⟩, ⟨by repeat (first | (with_reducible first | exact HB.out | apply below_alloc | apply pw_below_drewN | apply below_drew1) | exact HB.out)⟩⟩
            case rest =>
             clear HC21
             try clear c1
             try clear c2
             try clear p2
             try clear q2
             try clear c3
             try clear c5
             try clear c7
             try clear p7
             try clear q7
             try clear hx7
             try clear c13
             try clear c13b0
             try clear c13b1
             try clear c14
             try clear c14b0
             try clear c15
             try clear c16
             try clear c17
             try clear c17b0
             try clear c18
             try clear c18b0
             try clear c18b1
             try clear c19
             try clear c19b0
             try clear c19b1
             try clear c20
             try clear q22
             try clear c25
             try clear c25b0
             try clear c25b1
             try clear c26
             try clear c26b0
             try clear c27
             try clear c29
             try clear c29b0
             try clear c29b1
             try clear c30
             try clear c30b0
             try clear c31
             try clear c35
             try clear hx788_0
             try clear hx792_0
             try clear p2
             try clear p788
             try clear p792
             try clear q22
             try clear q788
             try clear q792
             obtain ⟨kq, x10_20, HA, HJ20, HO_7, HO_10, HR784, HB⟩ := hcut
             cases kq with
             | zero => exact absurd HA.out (by simp [stratumlaw05_TlvTurned.j2])
             | succ kj20 =>
              have H := HA.out
              clear HA
              simp only [stratumlaw05_TlvTurned.j2] at H
              obtain ⟨ji36, hji36⟩ : ∃ j_ : Int, (wrap64 (a1 + 1)) = j_ := ⟨_, rfl⟩
              replace H : (if 0 ≤ (ji36) then (if (ji36) ≤ (t777.length : Int) then ((some (t777.drop ((ji36) : Int).toNat : List Int)).bind fun y799 => (if x10_20.length + y799.length < 140737488355328 then ((some (x10_20 ++ y799 : List Int)).bind fun y803 => ((tlv_Decode.f kj20 y803).bind fun bt806 => (if bt806.2 = 0 then ((stratumlaw05_same.f kj20 bt806.1 l0).bind fun t810 => (if t810 = true then ((stratumlaw05_alike.f y803 t777).bind fun t811 => (if t811 = true then (stratumlaw05_TlvTurned.l0 kj20 l0 a1 a2 t777 (wrap64 (x9_2 + 1))) else (some false))) else (stratumlaw05_TlvTurned.l0 kj20 l0 a1 a2 t777 (wrap64 (x9_2 + 1))))) else (stratumlaw05_TlvTurned.l0 kj20 l0 a1 a2 t777 (wrap64 (x9_2 + 1)))))) else (none))) else (none)) else (none)) = some r := by first | (rw [hji36] at H; exact H) | (simp only [hji36] at H ⊢; exact H)
              have hji36w : (IntKind.i64.wrap (a1 + 1)) = ji36 := (i64_w _).trans hji36
              by_cases c37 : 0 ≤ (ji36)
              ·rw [if_pos c37] at H
               have c37b0 := eq_true c37
               have c37b1 : decide (0 ≤ (ji36)) = true := decide_eq_true c37
               clear c37
               by_cases c38 : (ji36) ≤ (t777.length : Int)
               ·rw [if_pos c38] at H
                have c38b0 := eq_true c38
                have c38b1 : decide ((ji36) ≤ (t777.length : Int)) = true := decide_eq_true c38
                clear c38
                obtain ⟨y799, hy799⟩ : ∃ y_ : List Int, y_ = (t777.drop ((ji36) : Int).toNat) := ⟨_, rfl⟩
                replace H : (if x10_20.length + y799.length < 140737488355328 then ((some (x10_20 ++ y799 : List Int)).bind fun y803 => ((tlv_Decode.f kj20 y803).bind fun bt806 => (if bt806.2 = 0 then ((stratumlaw05_same.f kj20 bt806.1 l0).bind fun t810 => (if t810 = true then ((stratumlaw05_alike.f y803 t777).bind fun t811 => (if t811 = true then (stratumlaw05_TlvTurned.l0 kj20 l0 a1 a2 t777 (wrap64 (x9_2 + 1))) else (some false))) else (stratumlaw05_TlvTurned.l0 kj20 l0 a1 a2 t777 (wrap64 (x9_2 + 1))))) else (stratumlaw05_TlvTurned.l0 kj20 l0 a1 a2 t777 (wrap64 (x9_2 + 1)))))) else (none)) = some r := by first | (rw [hy799]; with_reducible exact H) | (have H2_ := (Option.bind_some _ _).symm.trans H; rw [hy799]; with_reducible exact H2_) | (have H2_ := (Option.bind_some _ _).symm.trans H; with_reducible exact H2_) | with_reducible exact H | (rw [hy799]; exact H) | exact H
                have Ny799 := Aside0.mk hy799
                clear hy799
                by_cases c39 : x10_20.length + y799.length < 140737488355328
                ·rw [if_pos c39] at H
                 have LMc39 := Aside0.mk c39
                 clear c39
                 obtain ⟨y803, hy803⟩ : ∃ y_ : List Int, y_ = (x10_20 ++ y799) := ⟨_, rfl⟩
                 replace H : ((tlv_Decode.f kj20 y803).bind fun bt806 => (if bt806.2 = 0 then ((stratumlaw05_same.f kj20 bt806.1 l0).bind fun t810 => (if t810 = true then ((stratumlaw05_alike.f y803 t777).bind fun t811 => (if t811 = true then (stratumlaw05_TlvTurned.l0 kj20 l0 a1 a2 t777 (wrap64 (x9_2 + 1))) else (some false))) else (stratumlaw05_TlvTurned.l0 kj20 l0 a1 a2 t777 (wrap64 (x9_2 + 1))))) else (stratumlaw05_TlvTurned.l0 kj20 l0 a1 a2 t777 (wrap64 (x9_2 + 1))))) = some r := by first | (rw [hy803]; with_reducible exact H) | (have H2_ := (Option.bind_some _ _).symm.trans H; rw [hy803]; with_reducible exact H2_) | (have H2_ := (Option.bind_some _ _).symm.trans H; with_reducible exact H2_) | with_reducible exact H | (rw [hy803]; exact H) | exact H
                 have Ny803 := Aside0.mk hy803
                 clear hy803
                 replace H := Option.bind_eq_some_iff.mp H
                 obtain ⟨⟨t806, t809⟩, A400, H⟩ := H
                 replace H : (if t809 = 0 then ((stratumlaw05_same.f kj20 t806 l0).bind fun t810 => (if t810 = true then ((stratumlaw05_alike.f y803 t777).bind fun t811 => (if t811 = true then (stratumlaw05_TlvTurned.l0 kj20 l0 a1 a2 t777 (wrap64 (x9_2 + 1))) else (some false))) else (stratumlaw05_TlvTurned.l0 kj20 l0 a1 a2 t777 (wrap64 (x9_2 + 1))))) else (stratumlaw05_TlvTurned.l0 kj20 l0 a1 a2 t777 (wrap64 (x9_2 + 1)))) = some r := H
                 have A40 := Aside0.mk A400
                 clear A400
                 by_cases c41 : t809 = 0
                 ·rw [if_pos c41] at H
                  have c41b0 : (t809 == 0) = true := beq_iff_eq.mpr c41
                  have c41b1 : (t809 != 0) = false := bne_eq_false_iff_eq.mpr c41
                  clear c41
                  replace H := Option.bind_eq_some_iff.mp H
                  obtain ⟨t810, A420, H⟩ := H
                  replace H : (if t810 = true then ((stratumlaw05_alike.f y803 t777).bind fun t811 => (if t811 = true then (stratumlaw05_TlvTurned.l0 kj20 l0 a1 a2 t777 (wrap64 (x9_2 + 1))) else (some false))) else (stratumlaw05_TlvTurned.l0 kj20 l0 a1 a2 t777 (wrap64 (x9_2 + 1)))) = some r := H
                  have A42 := Aside0.mk A420
                  clear A420
                  by_cases c43 : t810 = true
                  ·subst c43
                   have H1 : ((stratumlaw05_alike.f y803 t777).bind fun t811 => (if t811 = true then (stratumlaw05_TlvTurned.l0 kj20 l0 a1 a2 t777 (wrap64 (x9_2 + 1))) else (some false))) = some r := by rw [if_pos rfl] at H; exact H
                   clear H
                   have H := H1
                   clear H1
                   replace H := Option.bind_eq_some_iff.mp H
                   obtain ⟨t811, A440, H⟩ := H
                   replace H : (if t811 = true then (stratumlaw05_TlvTurned.l0 kj20 l0 a1 a2 t777 (wrap64 (x9_2 + 1))) else (some false)) = some r := H
                   have A44 := Aside0.mk A440
                   clear A440
                   by_cases c45 : t811 = true
                   ·subst c45
                    have H1 : (stratumlaw05_TlvTurned.l0 kj20 l0 a1 a2 t777 (wrap64 (x9_2 + 1))) = some r := by rw [if_pos rfl] at H; exact H
                    clear H
                    have H := H1
                    clear H1
                    have H' := Aside0.mk H
                    clear H
                    have q46 : ((ji36) : Int) ≤ ((t777.length : Int) : Int) := of_decide_eq_true (by first | (with_reducible assumption) | assumption)
                    obtain ⟨i046, hi046, _, hsz46, _⟩ := info_parts info5
                    have hroom46 : t777.length ≤ co23 := (Kd.R_reads' HO_7.out).2.1
                    have hC46 : Kd.C (Kd.int .u8) _ Ao23 t777.length t777 := (Kd.R_reads' HO_7.out).2.2
                    have q046 : (0 : Int) ≤ ((ji36) : Int) := of_decide_eq_true (by first | (with_reducible assumption) | assumption)
                    have hcut46 := cut_from (P := Try.prog) 63 5 .i64 Try.underlying63 hi046 1 hsz46 Ao23 t777.length co23 (ji36) q046 q46
                    have hr46 := Kd.C_drop (m := ((ji36) : Int).toNat) (c := co23) hC46 (by omega) hroom46
                    obtain ⟨A46, hA46⟩ : ∃ A1, A1 = (if co23 = ((ji36) : Int).toNat then Ao23 else (Ao23 : Option Addr).map (·.add (((ji36) : Int).toNat * 1))) := ⟨_, rfl⟩
                    obtain ⟨c46, hc46⟩ : ∃ c1, c1 = co23 - ((ji36) : Int).toNat := ⟨_, rfl⟩
                    have hy46 : y799.length = t777.length - ((ji36) : Int).toNat := (by rw [Ny799.out, List.length_drop] <;> omega)
                    rw [show (t777).drop ((ji36) : Int).toNat = y799 from Ny799.out.symm] at hr46
                    replace hr46 : Kd.C (Kd.int .u8) _ A46 y799.length y799 := (by rw [hA46]; exact hr46)
                    rw [← hy46, ← hA46, ← hc46] at hcut46
                    have HR802 := Aside0.mk hr46
                    have HC802 := Aside0.mk (show y799.length ≤ c46 from by rw [hy46, hc46]; exact Nat.sub_le_sub_right hroom46 _)
                    clear hr46 hC46 hroom46 hi046 hsz46 hc46
                    have KY46 := Aside0.mk hy46
                    have KA46 := Aside0.mk hA46
                    clear hy46 hA46
                    have KL46 := Aside0.mk (show ((ji36) : Int).toNat ≤ t777.length from by omega)
                    replace q46 := eq_true q46
                    go_wp2_with (first | ((with_reducible refine gate_builtin (b := .append) (xs := #[.tmp 65, .tmp 69]) rfl ?_); (try (refine gate_guard (by rfl) ?_; dsimp only)); at_builtin; refine Kd.R_append_rows (Kd.int .u8) (w0 := w) w.heap.size rfl (.tmp 65) (.tmp 69) 63 5 (.int .u8 0) 1 rfl Try.underlying63 info5 rfl (by decide) (by omega) u10 x10_20 y799 _ _ _ (fun k_ => some k_ ≠ (.slice Ao23 t777.length co23 : Value).ownBlock) (fun _ => False) rfl rfl ?aO ?aR (fun _ _ h => h) (fun _ h => h.elim) ?aF ?aB ?aS ?aL ?_; (case aR => repeat (first | exact (by repeat (first | (with_reducible exact HR802.out) | (with_reducible refine Kd.C_alloc ?_ _) | (with_reducible refine Kd.C_drewN ?_ _) | (with_reducible refine Kd.C_drew ?_) | exact HR802.out)) | (with_reducible refine Kd.C_alloc ?_ _) | (with_reducible refine Kd.C_drewN ?_ _) | (with_reducible refine Kd.C_drew ?_))); (case aB => exact (by repeat (first | (with_reducible first | exact HB.out | apply below_alloc | apply pw_below_drewN | apply below_drew1) | exact HB.out))); (case aF => exact (fun k_ hk => Kd.fresh' (Kd.R_lt (by (with_reducible repeat (first | apply Kd.R_alloc | apply Kd.R_drewN | apply Kd.R_drew)); exact HO_7.out)) k_ hk)); (case aO => exact (by (with_reducible repeat (first | apply Kd.R_alloc | apply Kd.R_drewN | apply Kd.R_drew)); exact HO_10.out)); (case aS => exact (below_size (by repeat (first | (with_reducible first | exact HB.out | apply below_alloc | apply pw_below_drewN | apply below_drew1) | exact HB.out)))); (case aL => have := LMc39.out; omega); intro v804 w47 ho hb hg hat; rw [← Ny803.out] at ho; have n0_ := Aside0.mk (Kd.R_after (ok := (fun _ => True)) (by (with_reducible repeat (first | apply Kd.R_alloc | apply Kd.R_drewN | apply Kd.R_drew)); exact Kd.R_mono HO_7.out (fun _ hk => ⟨trivial, hk⟩)) hg hat); have n1_ := Aside0.mk (hb); have n2_ := Aside0.mk ((show Kd.C (Kd.int .u8) w47 Ao23 y781.length y781 from by rw [Ny781.out]; exact Kd.C_take (m := (a1 : Int).toNat) ((Kd.R_reads' (Kd.R_after (ok := (fun _ => True)) (by (with_reducible repeat (first | apply Kd.R_alloc | apply Kd.R_drewN | apply Kd.R_drew)); exact Kd.R_mono HO_7.out (fun _ hk => ⟨trivial, hk⟩)) hg hat)).2.2) KL22.out)); have n3_ := Aside0.mk ((show Kd.C (Kd.int .u8) w47 A46 y799.length y799 from by rw [Ny799.out, KA46.out]; exact Kd.C_drop (m := ((ji36) : Int).toNat) (c := co23) ((Kd.R_reads' (Kd.R_after (ok := (fun _ => True)) (by (with_reducible repeat (first | apply Kd.R_alloc | apply Kd.R_drewN | apply Kd.R_drew)); exact Kd.R_mono HO_7.out (fun _ hk => ⟨trivial, hk⟩)) hg hat)).2.2) KL46.out ((Kd.R_reads' (Kd.R_after (ok := (fun _ => True)) (by (with_reducible repeat (first | apply Kd.R_alloc | apply Kd.R_drewN | apply Kd.R_drew)); exact Kd.R_mono HO_7.out (fun _ hk => ⟨trivial, hk⟩)) hg hat)).2.1))); have n4_ := Aside0.mk (ho); clear HO_7; clear HB; clear HR784; clear HR802; clear HO_10; have HO_7 := n0_; have HB := n1_; have HR784 := n2_; have HR802 := n3_; have HO805 := n4_; clear n0_ n1_ n2_ n3_ n4_; clear ho hb hg hat; obtain ⟨Ao48, co48, eo48⟩ := Kd.R_slice HO805.out; subst eo48) | ((with_reducible refine gate_callee (f := 40) rfl ?_); refine goesL_ (some 73) rfl rfl Try.func40 (by kernel_rfl) rfl #[.slice Ao48 y803.length co48] rfl (by (try simp only [List.map_toArray, List.map_cons, List.map_nil]); first | done | rfl | (simp only [List.length_drop, List.length_take]; rfl)) ?_; (with_reducible refine (tlv_Decode.calls kj20 (fun k_ => some k_ = (.slice Ao48 y803.length co48 : Value).ownBlock) _ _ y803 t806 t809 _ ?side1 A40.out).mono ?_); (case side1 => exact Kd.R_V (Kd.R_tight rfl (HO805.out))); rintro e w49 ⟨v807, rfl, ho0, hb⟩; refine ⟨_, rfl, ?_⟩; have n0_ := Aside0.mk (Kd.R_below (by (with_reducible repeat (first | apply Kd.R_alloc | apply Kd.R_drewN | apply Kd.R_drew)); exact HO_7.out) hb); have n1_ := Aside0.mk (Kd.R_below (by (with_reducible repeat (first | apply Kd.R_alloc | apply Kd.R_drewN | apply Kd.R_drew)); exact HO805.out) hb); have n2_ := Aside0.mk (Kd.R_lower (Kd.R_mono (ok' := fun k_ => True) ho0 (fun _ hk_ => trivial)) (below_size (by repeat (first | (with_reducible first | exact HB.out | apply below_alloc | apply pw_below_drewN | apply below_drew1) | exact HB.out)))); have n3_ := Aside0.mk (Kd.C_below (by repeat (first | (with_reducible exact HR784.out) | (with_reducible refine Kd.C_alloc ?_ _) | (with_reducible refine Kd.C_drewN ?_ _) | (with_reducible refine Kd.C_drew ?_) | exact HR784.out)) hb); have n4_ := Aside0.mk (Kd.C_below (by repeat (first | (with_reducible exact HR802.out) | (with_reducible refine Kd.C_alloc ?_ _) | (with_reducible refine Kd.C_drewN ?_ _) | (with_reducible refine Kd.C_drew ?_) | exact HR802.out)) hb); have n5_ := Aside0.mk (below_step (by repeat (first | (with_reducible first | exact HB.out | apply below_alloc | apply pw_below_drewN | apply below_drew1) | exact HB.out)) hb); clear HO_7; clear HO805; clear HR784; clear HR802; clear HB; have HO_7 := n0_; have HO805 := n1_; have HO808 := n2_; have HR784 := n3_; have HR802 := n4_; have HB := n5_; clear n0_ n1_ n2_ n3_ n4_ n5_; (try clear hb); (try clear hb2); (try clear hk); (try clear hi); (try clear ho0); obtain ⟨Ao50, co50, eo50⟩ := Kd.R_slice HO808.out; subst eo50) | (go_at_call 41; (with_reducible refine (stratumlaw05_same.calls kj20 _ _ t806 _ _ l0 true _ ?side1 ?side2 ?side3 ?side4 A42.out).mono ?_); (case side1 => repeat (first | exact (Kd.R_reads' HO808.out).2.2 | (with_reducible refine Kd.C_alloc ?_ _) | (with_reducible refine Kd.C_drewN ?_ _) | (with_reducible refine Kd.C_drew ?_))); (case side2 => exact (Kd.R_reads' HO808.out).2.1); (case side3 => repeat (first | exact (Kd.C_below HR0.out HB.out) | (with_reducible refine Kd.C_alloc ?_ _) | (with_reducible refine Kd.C_drewN ?_ _) | (with_reducible refine Kd.C_drew ?_))); (case side4 => exact HC0.out); rintro e w' ⟨rfl, ⟨nd, rfl⟩⟩) | (go_at_call 38; (with_reducible refine (stratumlaw05_alike.calls _ _ y803 _ _ t777 true _ ?side1 ?side2 ?side3 ?side4 A44.out).mono ?_); (case side1 => repeat (first | exact (Kd.R_reads' HO805.out).2.2 | (with_reducible refine Kd.C_alloc ?_ _) | (with_reducible refine Kd.C_drewN ?_ _) | (with_reducible refine Kd.C_drew ?_))); (case side2 => exact (Kd.R_reads' HO805.out).2.1); (case side3 => repeat (first | exact (Kd.R_reads' HO_7.out).2.2 | (with_reducible refine Kd.C_alloc ?_ _) | (with_reducible refine Kd.C_drewN ?_ _) | (with_reducible refine Kd.C_drew ?_))); (case side4 => exact (Kd.R_reads' HO_7.out).2.1); rintro e w' ⟨rfl, ⟨nd, rfl⟩⟩))
                    go_roundg kj20
                    case measure => have := HJ9.out; have := HK2.out; have := HJ20.out; omega
                    case rel => exact ⟨(wrap64 (x9_2 + 1)), (by first | rfl | (simp; done) | (simp [*]; done)), H', ⟨by have := HJ9.out; have := HK2.out; have := HJ20.out; omega⟩, ⟨by (with_reducible repeat (first | apply Kd.R_alloc | apply Kd.R_drewN | apply Kd.R_drew)); exact Kd.R_mono HO_7.out (fun _ hk => trivial)⟩, ⟨by repeat (first | (with_reducible first | exact HB.out | apply below_alloc | apply pw_below_drewN | apply below_drew1) | exact HB.out)⟩⟩
                   ·replace c45 := Bool.eq_false_iff.mpr c45
                    subst c45
                    have H1 : (some false) = some r := by rw [if_neg (show ¬ (false = true) by decide)] at H; exact H
                    clear H
                    have H := H1
                    clear H1
                    exact absurd ((Option.some.inj H).trans hr_.out) (by simp)
                  ·replace c43 := Bool.eq_false_iff.mpr c43
                   subst c43
                   have H1 : (stratumlaw05_TlvTurned.l0 kj20 l0 a1 a2 t777 (wrap64 (x9_2 + 1))) = some r := by rw [if_neg (show ¬ (false = true) by decide)] at H; exact H
                   clear H
                   have H := H1
                   clear H1
                   have H' := Aside0.mk H
                   clear H
                   have q51 : ((ji36) : Int) ≤ ((t777.length : Int) : Int) := of_decide_eq_true (by first | (with_reducible assumption) | assumption)
                   obtain ⟨i051, hi051, _, hsz51, _⟩ := info_parts info5
                   have hroom51 : t777.length ≤ co23 := (Kd.R_reads' HO_7.out).2.1
                   have hC51 : Kd.C (Kd.int .u8) _ Ao23 t777.length t777 := (Kd.R_reads' HO_7.out).2.2
                   have q051 : (0 : Int) ≤ ((ji36) : Int) := of_decide_eq_true (by first | (with_reducible assumption) | assumption)
                   have hcut51 := cut_from (P := Try.prog) 63 5 .i64 Try.underlying63 hi051 1 hsz51 Ao23 t777.length co23 (ji36) q051 q51
                   have hr51 := Kd.C_drop (m := ((ji36) : Int).toNat) (c := co23) hC51 (by omega) hroom51
                   obtain ⟨A51, hA51⟩ : ∃ A1, A1 = (if co23 = ((ji36) : Int).toNat then Ao23 else (Ao23 : Option Addr).map (·.add (((ji36) : Int).toNat * 1))) := ⟨_, rfl⟩
                   obtain ⟨c51, hc51⟩ : ∃ c1, c1 = co23 - ((ji36) : Int).toNat := ⟨_, rfl⟩
                   have hy51 : y799.length = t777.length - ((ji36) : Int).toNat := (by rw [Ny799.out, List.length_drop] <;> omega)
                   rw [show (t777).drop ((ji36) : Int).toNat = y799 from Ny799.out.symm] at hr51
                   replace hr51 : Kd.C (Kd.int .u8) _ A51 y799.length y799 := (by rw [hA51]; exact hr51)
                   rw [← hy51, ← hA51, ← hc51] at hcut51
                   have HR802 := Aside0.mk hr51
                   have HC802 := Aside0.mk (show y799.length ≤ c51 from by rw [hy51, hc51]; exact Nat.sub_le_sub_right hroom51 _)
                   clear hr51 hC51 hroom51 hi051 hsz51 hc51
                   have KY51 := Aside0.mk hy51
                   have KA51 := Aside0.mk hA51
                   clear hy51 hA51
                   have KL51 := Aside0.mk (show ((ji36) : Int).toNat ≤ t777.length from by omega)
                   replace q51 := eq_true q51
                   go_wp2_with (first | ((with_reducible refine gate_builtin (b := .append) (xs := #[.tmp 65, .tmp 69]) rfl ?_); (try (refine gate_guard (by rfl) ?_; dsimp only)); at_builtin; refine Kd.R_append_rows (Kd.int .u8) (w0 := w) w.heap.size rfl (.tmp 65) (.tmp 69) 63 5 (.int .u8 0) 1 rfl Try.underlying63 info5 rfl (by decide) (by omega) u10 x10_20 y799 _ _ _ (fun k_ => some k_ ≠ (.slice Ao23 t777.length co23 : Value).ownBlock) (fun _ => False) rfl rfl ?aO ?aR (fun _ _ h => h) (fun _ h => h.elim) ?aF ?aB ?aS ?aL ?_; (case aR => repeat (first | exact (by repeat (first | (with_reducible exact HR802.out) | (with_reducible refine Kd.C_alloc ?_ _) | (with_reducible refine Kd.C_drewN ?_ _) | (with_reducible refine Kd.C_drew ?_) | exact HR802.out)) | (with_reducible refine Kd.C_alloc ?_ _) | (with_reducible refine Kd.C_drewN ?_ _) | (with_reducible refine Kd.C_drew ?_))); (case aB => exact (by repeat (first | (with_reducible first | exact HB.out | apply below_alloc | apply pw_below_drewN | apply below_drew1) | exact HB.out))); (case aF => exact (fun k_ hk => Kd.fresh' (Kd.R_lt (by (with_reducible repeat (first | apply Kd.R_alloc | apply Kd.R_drewN | apply Kd.R_drew)); exact HO_7.out)) k_ hk)); (case aO => exact (by (with_reducible repeat (first | apply Kd.R_alloc | apply Kd.R_drewN | apply Kd.R_drew)); exact HO_10.out)); (case aS => exact (below_size (by repeat (first | (with_reducible first | exact HB.out | apply below_alloc | apply pw_below_drewN | apply below_drew1) | exact HB.out)))); (case aL => have := LMc39.out; omega); intro v804 w52 ho hb hg hat; rw [← Ny803.out] at ho; have n0_ := Aside0.mk (Kd.R_after (ok := (fun _ => True)) (by (with_reducible repeat (first | apply Kd.R_alloc | apply Kd.R_drewN | apply Kd.R_drew)); exact Kd.R_mono HO_7.out (fun _ hk => ⟨trivial, hk⟩)) hg hat); have n1_ := Aside0.mk (hb); have n2_ := Aside0.mk ((show Kd.C (Kd.int .u8) w52 Ao23 y781.length y781 from by rw [Ny781.out]; exact Kd.C_take (m := (a1 : Int).toNat) ((Kd.R_reads' (Kd.R_after (ok := (fun _ => True)) (by (with_reducible repeat (first | apply Kd.R_alloc | apply Kd.R_drewN | apply Kd.R_drew)); exact Kd.R_mono HO_7.out (fun _ hk => ⟨trivial, hk⟩)) hg hat)).2.2) KL22.out)); have n3_ := Aside0.mk ((show Kd.C (Kd.int .u8) w52 A51 y799.length y799 from by rw [Ny799.out, KA51.out]; exact Kd.C_drop (m := ((ji36) : Int).toNat) (c := co23) ((Kd.R_reads' (Kd.R_after (ok := (fun _ => True)) (by (with_reducible repeat (first | apply Kd.R_alloc | apply Kd.R_drewN | apply Kd.R_drew)); exact Kd.R_mono HO_7.out (fun _ hk => ⟨trivial, hk⟩)) hg hat)).2.2) KL51.out ((Kd.R_reads' (Kd.R_after (ok := (fun _ => True)) (by (with_reducible repeat (first | apply Kd.R_alloc | apply Kd.R_drewN | apply Kd.R_drew)); exact Kd.R_mono HO_7.out (fun _ hk => ⟨trivial, hk⟩)) hg hat)).2.1))); have n4_ := Aside0.mk (ho); clear HO_7; clear HB; clear HR784; clear HR802; clear HO_10; have HO_7 := n0_; have HB := n1_; have HR784 := n2_; have HR802 := n3_; have HO805 := n4_; clear n0_ n1_ n2_ n3_ n4_; clear ho hb hg hat; obtain ⟨Ao53, co53, eo53⟩ := Kd.R_slice HO805.out; subst eo53) | ((with_reducible refine gate_callee (f := 40) rfl ?_); refine goesL_ (some 73) rfl rfl Try.func40 (by kernel_rfl) rfl #[.slice Ao53 y803.length co53] rfl (by (try simp only [List.map_toArray, List.map_cons, List.map_nil]); first | done | rfl | (simp only [List.length_drop, List.length_take]; rfl)) ?_; (with_reducible refine (tlv_Decode.calls kj20 (fun k_ => some k_ = (.slice Ao53 y803.length co53 : Value).ownBlock) _ _ y803 t806 t809 _ ?side1 A40.out).mono ?_); (case side1 => exact Kd.R_V (Kd.R_tight rfl (HO805.out))); rintro e w54 ⟨v807, rfl, ho0, hb⟩; refine ⟨_, rfl, ?_⟩; have n0_ := Aside0.mk (Kd.R_below (by (with_reducible repeat (first | apply Kd.R_alloc | apply Kd.R_drewN | apply Kd.R_drew)); exact HO_7.out) hb); have n1_ := Aside0.mk (Kd.R_below (by (with_reducible repeat (first | apply Kd.R_alloc | apply Kd.R_drewN | apply Kd.R_drew)); exact HO805.out) hb); have n2_ := Aside0.mk (Kd.R_lower (Kd.R_mono (ok' := fun k_ => True) ho0 (fun _ hk_ => trivial)) (below_size (by repeat (first | (with_reducible first | exact HB.out | apply below_alloc | apply pw_below_drewN | apply below_drew1) | exact HB.out)))); have n3_ := Aside0.mk (Kd.C_below (by repeat (first | (with_reducible exact HR784.out) | (with_reducible refine Kd.C_alloc ?_ _) | (with_reducible refine Kd.C_drewN ?_ _) | (with_reducible refine Kd.C_drew ?_) | exact HR784.out)) hb); have n4_ := Aside0.mk (Kd.C_below (by repeat (first | (with_reducible exact HR802.out) | (with_reducible refine Kd.C_alloc ?_ _) | (with_reducible refine Kd.C_drewN ?_ _) | (with_reducible refine Kd.C_drew ?_) | exact HR802.out)) hb); have n5_ := Aside0.mk (below_step (by repeat (first | (with_reducible first | exact HB.out | apply below_alloc | apply pw_below_drewN | apply below_drew1) | exact HB.out)) hb); clear HO_7; clear HO805; clear HR784; clear HR802; clear HB; have HO_7 := n0_; have HO805 := n1_; have HO808 := n2_; have HR784 := n3_; have HR802 := n4_; have HB := n5_; clear n0_ n1_ n2_ n3_ n4_ n5_; (try clear hb); (try clear hb2); (try clear hk); (try clear hi); (try clear ho0); obtain ⟨Ao55, co55, eo55⟩ := Kd.R_slice HO808.out; subst eo55) | (go_at_call 41; (with_reducible refine (stratumlaw05_same.calls kj20 _ _ t806 _ _ l0 false _ ?side1 ?side2 ?side3 ?side4 A42.out).mono ?_); (case side1 => repeat (first | exact (Kd.R_reads' HO808.out).2.2 | (with_reducible refine Kd.C_alloc ?_ _) | (with_reducible refine Kd.C_drewN ?_ _) | (with_reducible refine Kd.C_drew ?_))); (case side2 => exact (Kd.R_reads' HO808.out).2.1); (case side3 => repeat (first | exact (Kd.C_below HR0.out HB.out) | (with_reducible refine Kd.C_alloc ?_ _) | (with_reducible refine Kd.C_drewN ?_ _) | (with_reducible refine Kd.C_drew ?_))); (case side4 => exact HC0.out); rintro e w' ⟨rfl, ⟨nd, rfl⟩⟩))
                   go_roundg kj20
                   case measure => have := HJ9.out; have := HK2.out; have := HJ20.out; omega
                   case rel => exact ⟨(wrap64 (x9_2 + 1)), (by first | rfl | (simp; done) | (simp [*]; done)), H', ⟨by have := HJ9.out; have := HK2.out; have := HJ20.out; omega⟩, ⟨by (with_reducible repeat (first | apply Kd.R_alloc | apply Kd.R_drewN | apply Kd.R_drew)); exact Kd.R_mono HO_7.out (fun _ hk => trivial)⟩, ⟨by repeat (first | (with_reducible first | exact HB.out | apply below_alloc | apply pw_below_drewN | apply below_drew1) | exact HB.out)⟩⟩
                 ·rw [if_neg c41] at H
                  have c41b0 : (t809 == 0) = false := beq_eq_false_iff_ne.mpr c41
                  have c41b1 : (t809 != 0) = true := bne_iff_ne.mpr c41
                  have H' := Aside0.mk H
                  clear H
                  have q56 : ((ji36) : Int) ≤ ((t777.length : Int) : Int) := of_decide_eq_true (by first | (with_reducible assumption) | assumption)
                  obtain ⟨i056, hi056, _, hsz56, _⟩ := info_parts info5
                  have hroom56 : t777.length ≤ co23 := (Kd.R_reads' HO_7.out).2.1
                  have hC56 : Kd.C (Kd.int .u8) _ Ao23 t777.length t777 := (Kd.R_reads' HO_7.out).2.2
                  have q056 : (0 : Int) ≤ ((ji36) : Int) := of_decide_eq_true (by first | (with_reducible assumption) | assumption)
                  have hcut56 := cut_from (P := Try.prog) 63 5 .i64 Try.underlying63 hi056 1 hsz56 Ao23 t777.length co23 (ji36) q056 q56
                  have hr56 := Kd.C_drop (m := ((ji36) : Int).toNat) (c := co23) hC56 (by omega) hroom56
                  obtain ⟨A56, hA56⟩ : ∃ A1, A1 = (if co23 = ((ji36) : Int).toNat then Ao23 else (Ao23 : Option Addr).map (·.add (((ji36) : Int).toNat * 1))) := ⟨_, rfl⟩
                  obtain ⟨c56, hc56⟩ : ∃ c1, c1 = co23 - ((ji36) : Int).toNat := ⟨_, rfl⟩
                  have hy56 : y799.length = t777.length - ((ji36) : Int).toNat := (by rw [Ny799.out, List.length_drop] <;> omega)
                  rw [show (t777).drop ((ji36) : Int).toNat = y799 from Ny799.out.symm] at hr56
                  replace hr56 : Kd.C (Kd.int .u8) _ A56 y799.length y799 := (by rw [hA56]; exact hr56)
                  rw [← hy56, ← hA56, ← hc56] at hcut56
                  have HR802 := Aside0.mk hr56
                  have HC802 := Aside0.mk (show y799.length ≤ c56 from by rw [hy56, hc56]; exact Nat.sub_le_sub_right hroom56 _)
                  clear hr56 hC56 hroom56 hi056 hsz56 hc56
                  have KY56 := Aside0.mk hy56
                  have KA56 := Aside0.mk hA56
                  clear hy56 hA56
                  have KL56 := Aside0.mk (show ((ji36) : Int).toNat ≤ t777.length from by omega)
                  replace q56 := eq_true q56
                  go_wp2_with (first | ((with_reducible refine gate_builtin (b := .append) (xs := #[.tmp 65, .tmp 69]) rfl ?_); (try (refine gate_guard (by rfl) ?_; dsimp only)); at_builtin; refine Kd.R_append_rows (Kd.int .u8) (w0 := w) w.heap.size rfl (.tmp 65) (.tmp 69) 63 5 (.int .u8 0) 1 rfl Try.underlying63 info5 rfl (by decide) (by omega) u10 x10_20 y799 _ _ _ (fun k_ => some k_ ≠ (.slice Ao23 t777.length co23 : Value).ownBlock) (fun _ => False) rfl rfl ?aO ?aR (fun _ _ h => h) (fun _ h => h.elim) ?aF ?aB ?aS ?aL ?_; (case aR => repeat (first | exact (by repeat (first | (with_reducible exact HR802.out) | (with_reducible refine Kd.C_alloc ?_ _) | (with_reducible refine Kd.C_drewN ?_ _) | (with_reducible refine Kd.C_drew ?_) | exact HR802.out)) | (with_reducible refine Kd.C_alloc ?_ _) | (with_reducible refine Kd.C_drewN ?_ _) | (with_reducible refine Kd.C_drew ?_))); (case aB => exact (by repeat (first | (with_reducible first | exact HB.out | apply below_alloc | apply pw_below_drewN | apply below_drew1) | exact HB.out))); (case aF => exact (fun k_ hk => Kd.fresh' (Kd.R_lt (by (with_reducible repeat (first | apply Kd.R_alloc | apply Kd.R_drewN | apply Kd.R_drew)); exact HO_7.out)) k_ hk)); (case aO => exact (by (with_reducible repeat (first | apply Kd.R_alloc | apply Kd.R_drewN | apply Kd.R_drew)); exact HO_10.out)); (case aS => exact (below_size (by repeat (first | (with_reducible first | exact HB.out | apply below_alloc | apply pw_below_drewN | apply below_drew1) | exact HB.out)))); (case aL => have := LMc39.out; omega); intro v804 w57 ho hb hg hat; rw [← Ny803.out] at ho; have n0_ := Aside0.mk (Kd.R_after (ok := (fun _ => True)) (by (with_reducible repeat (first | apply Kd.R_alloc | apply Kd.R_drewN | apply Kd.R_drew)); exact Kd.R_mono HO_7.out (fun _ hk => ⟨trivial, hk⟩)) hg hat); have n1_ := Aside0.mk (hb); have n2_ := Aside0.mk ((show Kd.C (Kd.int .u8) w57 Ao23 y781.length y781 from by rw [Ny781.out]; exact Kd.C_take (m := (a1 : Int).toNat) ((Kd.R_reads' (Kd.R_after (ok := (fun _ => True)) (by (with_reducible repeat (first | apply Kd.R_alloc | apply Kd.R_drewN | apply Kd.R_drew)); exact Kd.R_mono HO_7.out (fun _ hk => ⟨trivial, hk⟩)) hg hat)).2.2) KL22.out)); have n3_ := Aside0.mk ((show Kd.C (Kd.int .u8) w57 A56 y799.length y799 from by rw [Ny799.out, KA56.out]; exact Kd.C_drop (m := ((ji36) : Int).toNat) (c := co23) ((Kd.R_reads' (Kd.R_after (ok := (fun _ => True)) (by (with_reducible repeat (first | apply Kd.R_alloc | apply Kd.R_drewN | apply Kd.R_drew)); exact Kd.R_mono HO_7.out (fun _ hk => ⟨trivial, hk⟩)) hg hat)).2.2) KL56.out ((Kd.R_reads' (Kd.R_after (ok := (fun _ => True)) (by (with_reducible repeat (first | apply Kd.R_alloc | apply Kd.R_drewN | apply Kd.R_drew)); exact Kd.R_mono HO_7.out (fun _ hk => ⟨trivial, hk⟩)) hg hat)).2.1))); have n4_ := Aside0.mk (ho); clear HO_7; clear HB; clear HR784; clear HR802; clear HO_10; have HO_7 := n0_; have HB := n1_; have HR784 := n2_; have HR802 := n3_; have HO805 := n4_; clear n0_ n1_ n2_ n3_ n4_; clear ho hb hg hat; obtain ⟨Ao58, co58, eo58⟩ := Kd.R_slice HO805.out; subst eo58) | ((with_reducible refine gate_callee (f := 40) rfl ?_); refine goesL_ (some 73) rfl rfl Try.func40 (by kernel_rfl) rfl #[.slice Ao58 y803.length co58] rfl (by (try simp only [List.map_toArray, List.map_cons, List.map_nil]); first | done | rfl | (simp only [List.length_drop, List.length_take]; rfl)) ?_; (with_reducible refine (tlv_Decode.calls kj20 (fun k_ => some k_ = (.slice Ao58 y803.length co58 : Value).ownBlock) _ _ y803 t806 t809 _ ?side1 A40.out).mono ?_); (case side1 => exact Kd.R_V (Kd.R_tight rfl (HO805.out))); rintro e w59 ⟨v807, rfl, ho0, hb⟩; refine ⟨_, rfl, ?_⟩; have n0_ := Aside0.mk (Kd.R_below (by (with_reducible repeat (first | apply Kd.R_alloc | apply Kd.R_drewN | apply Kd.R_drew)); exact HO_7.out) hb); have n1_ := Aside0.mk (Kd.R_below (by (with_reducible repeat (first | apply Kd.R_alloc | apply Kd.R_drewN | apply Kd.R_drew)); exact HO805.out) hb); have n2_ := Aside0.mk (Kd.R_lower (Kd.R_mono (ok' := fun k_ => True) ho0 (fun _ hk_ => trivial)) (below_size (by repeat (first | (with_reducible first | exact HB.out | apply below_alloc | apply pw_below_drewN | apply below_drew1) | exact HB.out)))); have n3_ := Aside0.mk (Kd.C_below (by repeat (first | (with_reducible exact HR784.out) | (with_reducible refine Kd.C_alloc ?_ _) | (with_reducible refine Kd.C_drewN ?_ _) | (with_reducible refine Kd.C_drew ?_) | exact HR784.out)) hb); have n4_ := Aside0.mk (Kd.C_below (by repeat (first | (with_reducible exact HR802.out) | (with_reducible refine Kd.C_alloc ?_ _) | (with_reducible refine Kd.C_drewN ?_ _) | (with_reducible refine Kd.C_drew ?_) | exact HR802.out)) hb); have n5_ := Aside0.mk (below_step (by repeat (first | (with_reducible first | exact HB.out | apply below_alloc | apply pw_below_drewN | apply below_drew1) | exact HB.out)) hb); clear HO_7; clear HO805; clear HR784; clear HR802; clear HB; have HO_7 := n0_; have HO805 := n1_; have HO808 := n2_; have HR784 := n3_; have HR802 := n4_; have HB := n5_; clear n0_ n1_ n2_ n3_ n4_ n5_; (try clear hb); (try clear hb2); (try clear hk); (try clear hi); (try clear ho0)))
                  go_roundg kj20
                  case measure => have := HJ9.out; have := HK2.out; have := HJ20.out; omega
                  case rel => exact ⟨(wrap64 (x9_2 + 1)), (by first | rfl | (simp; done) | (simp [*]; done)), H', ⟨by have := HJ9.out; have := HK2.out; have := HJ20.out; omega⟩, ⟨by (with_reducible repeat (first | apply Kd.R_alloc | apply Kd.R_drewN | apply Kd.R_drew)); exact Kd.R_mono HO_7.out (fun _ hk => trivial)⟩, ⟨by repeat (first | (with_reducible first | exact HB.out | apply below_alloc | apply pw_below_drewN | apply below_drew1) | exact HB.out)⟩⟩
                ·rw [if_neg c39] at H
                 exact absurd H (by simp)
               ·rw [if_neg c38] at H
                exact absurd H (by simp)
              ·rw [if_neg c37] at H
               exact absurd H (by simp)
           ·rw [if_neg c20] at H
            exact absurd H (by simp)
          ·rw [if_neg c19] at H
           exact absurd H (by simp)
         ·rw [if_neg c18] at H
          exact absurd H (by simp)
        ·rw [if_neg c17] at H
         have c17b0 : decide (x9_2 < 3) = false := decide_eq_false c17
         clear c17
         obtain rfl := Option.some.inj H
         go_wp2
         go_ret
         exact ⟨by first | rfl | (simp [errW_none, errW_some] <;> rfl) | (simp [*, errW_none, errW_some] <;> rfl), by repeat (first | (with_reducible first | exact HB.out | apply below_alloc | apply pw_below_drewN | apply below_drew1) | exact HB.out)⟩
 ·replace c5 := Bool.eq_false_iff.mpr c5
  subst c5
  have H1 : (some false) = some r := by rw [if_neg (show ¬ (false = true) by decide)] at H; exact H
  clear H
  have H := H1
  clear H1
  exact absurd ((Option.some.inj H).trans hr_.out) (by simp)
-- NOT PRINTED: function 16 (stratumlaw05_TlvKeeps)
end Go.Proofs.Yteejpfemaedmkaa.X
