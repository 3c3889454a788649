-- Written by wip/printx.py: the kit's printer with functions proved by hand. Not trusted: Lean checks it.
import Derived.Test.YteejpfemaedmkaaQG1X0
import Derived.Test.YteejpfemaedmkaaQG1X8
import Derived.Test.YteejpfemaedmkaaQG1X22
import Derived.Test.YteejpfemaedmkaaQG1X24
import Derived.Test.YteejpfemaedmkaaQG1X25
namespace Go.Proofs.Yteejpfemaedmkaa.X
open Go.RowKit Go.Proofs.YteejpfemaedmkaaW.PrintWords Go.Proofs.YteejpfemaedmkaaW.PrintLast Go.Proofs.YteejpfemaedmkaaW.PrintMore
attribute [local go_sem] max2_int min2_int max_two min_two max_three min_three max_four min_four
set_option linter.unusedVariables false
set_option linter.unusedSimpArgs false
attribute [local go_sem] vx_gtr vx_leq vx_geq
def stratumlaw05_TlvForth.f (k : Nat) (l0 : List Int) : Option (Bool) := (stratumlaw05_lives.f k).bind fun t709 => (if t709 = true then (if (l0.length : Int) > 33554432 then (some true) else ((tlv_Decode.f k l0).bind fun bt710 => (if bt710.2 = 0 then ((tlv_Check.f k bt710.1).bind fun bt714 => ((tlv_Encode.f k bt710.1).bind fun bt716 => (if bt714.2 = 0 then (if bt716.2 = 0 then ((stratumlaw05_alike.f bt716.1 l0).bind fun t720 => (some t720)) else (some false)) else (some false)))) else (if (bt710.1.length : Int) = 0 then (if (l0.length : Int) > 16777215 then (if bt710.2 = 2 then (some true) else (some false)) else (if bt710.2 = 2 then (some false) else (some (bt710.2 == 3)))) else (some false))))) else (some false))
set_option maxHeartbeats 8000000 in
set_option maxRecDepth 100000 in
theorem stratumlaw05_TlvForth.calls (k : Nat) (A0 : Option Addr) (c0 : Nat) (l0 : List Int) (r : Bool) (w : World) (hr0 : Kd.C (Kd.int .u8) w A0 l0.length l0) (hc0 : l0.length ≤ c0) (h : stratumlaw05_TlvForth.f k l0 = some r) (hr_ : Aside0 (r = true)) :
  Calls Try.prog 12 #[.slice A0 l0.length c0] w fun e w' => e = .returned (.bool r) ∧ Below w.heap.size w w' := by
 have HR0 := Aside0.mk hr0
 have HC0 := Aside0.mk hc0
 clear hr0 hc0
 have HB := Aside0.mk (Below.refl w.heap.size w)
 have H : ((stratumlaw05_lives.f k).bind fun t709 => (if t709 = true then (if (l0.length : Int) > 33554432 then (some true) else ((tlv_Decode.f k l0).bind fun bt710 => (if bt710.2 = 0 then ((tlv_Check.f k bt710.1).bind fun bt714 => ((tlv_Encode.f k bt710.1).bind fun bt716 => (if bt714.2 = 0 then (if bt716.2 = 0 then ((stratumlaw05_alike.f bt716.1 l0).bind fun t720 => (some t720)) else (some false)) else (some false)))) else (if (bt710.1.length : Int) = 0 then (if (l0.length : Int) > 16777215 then (if bt710.2 = 2 then (some true) else (some false)) else (if bt710.2 = 2 then (some false) else (some (bt710.2 == 3)))) else (some false))))) else (some false))) = some r := h
 clear h
 replace H := Option.bind_eq_some_iff.mp H
 obtain ⟨t709, A20, H⟩ := H
 replace H : (if t709 = true then (if (l0.length : Int) > 33554432 then (some true) else ((tlv_Decode.f k l0).bind fun bt710 => (if bt710.2 = 0 then ((tlv_Check.f k bt710.1).bind fun bt714 => ((tlv_Encode.f k bt710.1).bind fun bt716 => (if bt714.2 = 0 then (if bt716.2 = 0 then ((stratumlaw05_alike.f bt716.1 l0).bind fun t720 => (some t720)) else (some false)) else (some false)))) else (if (bt710.1.length : Int) = 0 then (if (l0.length : Int) > 16777215 then (if bt710.2 = 2 then (some true) else (some false)) else (if bt710.2 = 2 then (some false) else (some (bt710.2 == 3)))) else (some false))))) else (some false)) = some r := H
 have A2 := Aside0.mk A20
 clear A20
 by_cases c3 : t709 = true
 ·subst c3
  have H1 : (if (l0.length : Int) > 33554432 then (some true) else ((tlv_Decode.f k l0).bind fun bt710 => (if bt710.2 = 0 then ((tlv_Check.f k bt710.1).bind fun bt714 => ((tlv_Encode.f k bt710.1).bind fun bt716 => (if bt714.2 = 0 then (if bt716.2 = 0 then ((stratumlaw05_alike.f bt716.1 l0).bind fun t720 => (some t720)) else (some false)) else (some false)))) else (if (bt710.1.length : Int) = 0 then (if (l0.length : Int) > 16777215 then (if bt710.2 = 2 then (some true) else (some false)) else (if bt710.2 = 2 then (some false) else (some (bt710.2 == 3)))) else (some false))))) = some r := by rw [if_pos rfl] at H; exact H
  clear H
  have H := H1
  clear H1
  by_cases c4 : (l0.length : Int) > 33554432
  ·rw [if_pos c4] at H
   have c4b0 : decide (33554432 < (l0.length : Int)) = true := decide_eq_true c4
   have c4b1 : decide (33554432 < l0.length) = true := decide_eq_true (by omega)
   clear c4
   obtain rfl := Option.some.inj H
   go_enter Try.func12, Try.ntmps12
   go_wp2_with (first | ((with_reducible refine gate_callee (f := 30) rfl ?_); refine goesL_ (some 9) rfl rfl Try.func30 (by kernel_rfl) rfl #[] rfl (by (try simp only [List.map_toArray, List.map_cons, List.map_nil]); first | done | rfl | (simp only [List.length_drop, List.length_take]; rfl)) ?_; (with_reducible refine (stratumlaw05_lives.calls k  true _ A2.out).mono ?_); rintro e w5 ⟨rfl, hb⟩; refine ⟨_, rfl, ?_⟩; have n0_ := Aside0.mk (below_step (by repeat (first | (with_reducible first | exact HB.out | apply below_alloc | apply pw_below_drewN | apply below_drew1) | exact HB.out)) hb); clear HB; have HB := n0_; clear n0_; (try clear hb); (try clear hb2); (try clear hk); (try clear hi)))
   go_ret
   exact ⟨by first | rfl | (simp [errW_none, errW_some] <;> rfl) | (simp [*, errW_none, errW_some] <;> rfl), by repeat (first | (with_reducible first | exact HB.out | apply below_alloc | apply pw_below_drewN | apply below_drew1) | exact HB.out)⟩
  ·rw [if_neg c4] at H
   have c4b0 : decide (33554432 < (l0.length : Int)) = false := decide_eq_false c4
   have c4b1 : decide (33554432 < l0.length) = false := decide_eq_false (by omega)
   clear c4
   replace H := Option.bind_eq_some_iff.mp H
   obtain ⟨⟨t710, t713⟩, A60, H⟩ := H
   replace H : (if t713 = 0 then ((tlv_Check.f k t710).bind fun bt714 => ((tlv_Encode.f k t710).bind fun bt716 => (if bt714.2 = 0 then (if bt716.2 = 0 then ((stratumlaw05_alike.f bt716.1 l0).bind fun t720 => (some t720)) else (some false)) else (some false)))) else (if (t710.length : Int) = 0 then (if (l0.length : Int) > 16777215 then (if t713 = 2 then (some true) else (some false)) else (if t713 = 2 then (some false) else (some (t713 == 3)))) else (some false))) = some r := H
   have A6 := Aside0.mk A60
   clear A60
   by_cases c7 : t713 = 0
   ·rw [if_pos c7] at H
    have c7b0 : (t713 == 0) = true := beq_iff_eq.mpr c7
    have c7b1 : (t713 != 0) = false := bne_eq_false_iff_eq.mpr c7
    clear c7
    replace H := Option.bind_eq_some_iff.mp H
    obtain ⟨⟨t714, t715⟩, A80, H⟩ := H
    replace H : ((tlv_Encode.f k t710).bind fun bt716 => (if t715 = 0 then (if bt716.2 = 0 then ((stratumlaw05_alike.f bt716.1 l0).bind fun t720 => (some t720)) else (some false)) else (some false))) = some r := H
    have A8 := Aside0.mk A80
    clear A80
    replace H := Option.bind_eq_some_iff.mp H
    obtain ⟨⟨t716, t717⟩, A90, H⟩ := H
    replace H : (if t715 = 0 then (if t717 = 0 then ((stratumlaw05_alike.f t716 l0).bind fun t720 => (some t720)) else (some false)) else (some false)) = some r := H
    have A9 := Aside0.mk A90
    clear A90
    by_cases c10 : t715 = 0
    ·rw [if_pos c10] at H
     have c10b0 : (t715 == 0) = true := beq_iff_eq.mpr c10
     have c10b1 : (t715 != 0) = false := bne_eq_false_iff_eq.mpr c10
     clear c10
     by_cases c11 : t717 = 0
     ·rw [if_pos c11] at H
      have c11b0 : (t717 == 0) = true := beq_iff_eq.mpr c11
      have c11b1 : (t717 != 0) = false := bne_eq_false_iff_eq.mpr c11
      clear c11
      replace H := Option.bind_eq_some_iff.mp H
      obtain ⟨t720, A120, H⟩ := H
      replace H : (some t720) = some r := H
      have A12 := Aside0.mk A120
      clear A120
      obtain rfl := Option.some.inj H
      go_enter Try.func12, Try.ntmps12
      go_wp2_with (first | ((with_reducible refine gate_callee (f := 30) rfl ?_); refine goesL_ (some 9) rfl rfl Try.func30 (by kernel_rfl) rfl #[] rfl (by (try simp only [List.map_toArray, List.map_cons, List.map_nil]); first | done | rfl | (simp only [List.length_drop, List.length_take]; rfl)) ?_; (with_reducible refine (stratumlaw05_lives.calls k  true _ A2.out).mono ?_); rintro e w13 ⟨rfl, hb⟩; refine ⟨_, rfl, ?_⟩; have n0_ := Aside0.mk (below_step (by repeat (first | (with_reducible first | exact HB.out | apply below_alloc | apply pw_below_drewN | apply below_drew1) | exact HB.out)) hb); clear HB; have HB := n0_; clear n0_; (try clear hb); (try clear hb2); (try clear hk); (try clear hi)) | ((with_reducible refine gate_callee (f := 40) rfl ?_); refine goesL_ (some 16) rfl rfl Try.func40 (by kernel_rfl) rfl #[.slice A0 l0.length c0] rfl (by (try simp only [List.map_toArray, List.map_cons, List.map_nil]); first | done | rfl | (simp only [List.length_drop, List.length_take]; rfl)) ?_; (with_reducible refine (tlv_Decode.calls k (fun k_ => k_ < w.heap.size) _ _ l0 t710 t713 _ ?side1 A6.out).mono ?_); (case side1 => exact Kd.V_mk HC0.out (Kd.F_below (Kd.C_F (Kd.heap_int .u8) HR0.out) (by repeat (first | (with_reducible first | exact HB.out | apply below_alloc | apply pw_below_drewN | apply below_drew1) | exact HB.out)))); rintro e w14 ⟨v711, rfl, ho0, hb⟩; refine ⟨_, rfl, ?_⟩; have n0_ := Aside0.mk (Kd.R_lower (Kd.R_mono (ok' := fun k_ => True) ho0 (fun _ hk_ => trivial)) (below_size (by repeat (first | (with_reducible first | exact HB.out | apply below_alloc | apply pw_below_drewN | apply below_drew1) | exact HB.out)))); have n1_ := Aside0.mk (below_step (by repeat (first | (with_reducible first | exact HB.out | apply below_alloc | apply pw_below_drewN | apply below_drew1) | exact HB.out)) hb); clear HB; have HO712 := n0_; have HB := n1_; clear n0_ n1_; (try clear hb); (try clear hb2); (try clear hk); (try clear hi); (try clear ho0); obtain ⟨Ao15, co15, eo15⟩ := Kd.R_slice HO712.out; subst eo15) | ((with_reducible refine gate_callee (f := 33) rfl ?_); refine goesL_ (some 42) rfl rfl Try.func33 (by kernel_rfl) rfl #[.slice Ao15 t710.length co15] rfl (by (try simp only [List.map_toArray, List.map_cons, List.map_nil]); first | done | rfl | (simp only [List.length_drop, List.length_take]; rfl)) ?_; (with_reducible refine (tlv_Check.calls k _ _ t710 t714 t715 _ ?side1 ?side2 A8.out).mono ?_); (case side1 => repeat (first | exact (Kd.R_reads' HO712.out).2.2 | (with_reducible refine Kd.C_alloc ?_ _) | (with_reducible refine Kd.C_drewN ?_ _) | (with_reducible refine Kd.C_drew ?_))); (case side2 => exact (Kd.R_reads' HO712.out).2.1); rintro e w16 ⟨rfl, hb⟩; refine ⟨_, rfl, ?_⟩; have n0_ := Aside0.mk (Kd.R_below (by (with_reducible repeat (first | apply Kd.R_alloc | apply Kd.R_drewN | apply Kd.R_drew)); exact HO712.out) hb); have n1_ := Aside0.mk (below_step (by repeat (first | (with_reducible first | exact HB.out | apply below_alloc | apply pw_below_drewN | apply below_drew1) | exact HB.out)) hb); clear HO712; clear HB; have HO712 := n0_; have HB := n1_; clear n0_ n1_; (try clear hb); (try clear hb2); (try clear hk); (try clear hi)) | ((with_reducible refine gate_callee (f := 35) rfl ?_); refine goesL_ (some 47) rfl rfl Try.func35 (by kernel_rfl) rfl #[.slice Ao15 t710.length co15] rfl (by (try simp only [List.map_toArray, List.map_cons, List.map_nil]); first | done | rfl | (simp only [List.length_drop, List.length_take]; rfl)) ?_; (with_reducible refine (tlv_Encode.calls k _ _ t710 t716 t717 _ ?side1 ?side2 A9.out).mono ?_); (case side1 => repeat (first | exact (Kd.R_reads' HO712.out).2.2 | (with_reducible refine Kd.C_alloc ?_ _) | (with_reducible refine Kd.C_drewN ?_ _) | (with_reducible refine Kd.C_drew ?_))); (case side2 => exact (Kd.R_reads' HO712.out).2.1); rintro e w17 ⟨v718, rfl, ho0, hb⟩; refine ⟨_, rfl, ?_⟩; have n0_ := Aside0.mk (Kd.R_below (by (with_reducible repeat (first | apply Kd.R_alloc | apply Kd.R_drewN | apply Kd.R_drew)); exact HO712.out) hb); have n1_ := Aside0.mk (Kd.R_lower ho0 (below_size (by repeat (first | (with_reducible first | exact HB.out | apply below_alloc | apply pw_below_drewN | apply below_drew1) | exact HB.out)))); have n2_ := Aside0.mk (below_step (by repeat (first | (with_reducible first | exact HB.out | apply below_alloc | apply pw_below_drewN | apply below_drew1) | exact HB.out)) hb); clear HO712; clear HB; have HO712 := n0_; have HO719 := n1_; have HB := n2_; clear n0_ n1_ n2_; (try clear hb); (try clear hb2); (try clear hk); (try clear hi); (try clear ho0); obtain ⟨Ao18, co18, eo18⟩ := Kd.R_slice HO719.out; subst eo18) | (go_at_call 38; (with_reducible refine (stratumlaw05_alike.calls _ _ t716 _ _ l0 t720 _ ?side1 ?side2 ?side3 ?side4 A12.out).mono ?_); (case side1 => repeat (first | exact (Kd.R_reads' HO719.out).2.2 | (with_reducible refine Kd.C_alloc ?_ _) | (with_reducible refine Kd.C_drewN ?_ _) | (with_reducible refine Kd.C_drew ?_))); (case side2 => exact (Kd.R_reads' HO719.out).2.1); (case side3 => repeat (first | exact (Kd.C_below HR0.out HB.out) | (with_reducible refine Kd.C_alloc ?_ _) | (with_reducible refine Kd.C_drewN ?_ _) | (with_reducible refine Kd.C_drew ?_))); (case side4 => exact HC0.out); rintro e w' ⟨rfl, ⟨nd, rfl⟩⟩))
      go_ret
      exact ⟨by first | rfl | (simp [errW_none, errW_some] <;> rfl) | (simp [*, errW_none, errW_some] <;> rfl), by repeat (first | (with_reducible first | exact HB.out | apply below_alloc | apply pw_below_drewN | apply below_drew1) | exact HB.out)⟩
     ·rw [if_neg c11] at H
      have c11b0 : (t717 == 0) = false := beq_eq_false_iff_ne.mpr c11
      have c11b1 : (t717 != 0) = true := bne_iff_ne.mpr c11
      exact absurd ((Option.some.inj H).trans hr_.out) (by simp)
    ·rw [if_neg c10] at H
     have c10b0 : (t715 == 0) = false := beq_eq_false_iff_ne.mpr c10
     have c10b1 : (t715 != 0) = true := bne_iff_ne.mpr c10
     exact absurd ((Option.some.inj H).trans hr_.out) (by simp)
   ·rw [if_neg c7] at H
    have c7b0 : (t713 == 0) = false := beq_eq_false_iff_ne.mpr c7
    have c7b1 : (t713 != 0) = true := bne_iff_ne.mpr c7
    by_cases c19 : (t710.length : Int) = 0
    ·rw [if_pos c19] at H
     have c19b0 : ((t710.length : Int) == 0) = true := beq_iff_eq.mpr c19
     have c19b1 : ((t710.length : Int) != 0) = false := bne_eq_false_iff_eq.mpr c19
     clear c19
     by_cases c20 : (l0.length : Int) > 16777215
     ·rw [if_pos c20] at H
      have c20b0 : decide (16777215 < (l0.length : Int)) = true := decide_eq_true c20
      have c20b1 : decide (16777215 < l0.length) = true := decide_eq_true (by omega)
      clear c20
      by_cases c21 : t713 = 2
      ·rw [if_pos c21] at H
       have c21b0 : (t713 == 2) = true := beq_iff_eq.mpr c21
       have c21b1 : (t713 != 2) = false := bne_eq_false_iff_eq.mpr c21
       clear c21
       obtain rfl := Option.some.inj H
       go_enter Try.func12, Try.ntmps12
       go_wp2_with (first | ((with_reducible refine gate_callee (f := 30) rfl ?_); refine goesL_ (some 9) rfl rfl Try.func30 (by kernel_rfl) rfl #[] rfl (by (try simp only [List.map_toArray, List.map_cons, List.map_nil]); first | done | rfl | (simp only [List.length_drop, List.length_take]; rfl)) ?_; (with_reducible refine (stratumlaw05_lives.calls k  true _ A2.out).mono ?_); rintro e w22 ⟨rfl, hb⟩; refine ⟨_, rfl, ?_⟩; have n0_ := Aside0.mk (below_step (by repeat (first | (with_reducible first | exact HB.out | apply below_alloc | apply pw_below_drewN | apply below_drew1) | exact HB.out)) hb); clear HB; have HB := n0_; clear n0_; (try clear hb); (try clear hb2); (try clear hk); (try clear hi)) | ((with_reducible refine gate_callee (f := 40) rfl ?_); refine goesL_ (some 16) rfl rfl Try.func40 (by kernel_rfl) rfl #[.slice A0 l0.length c0] rfl (by (try simp only [List.map_toArray, List.map_cons, List.map_nil]); first | done | rfl | (simp only [List.length_drop, List.length_take]; rfl)) ?_; (with_reducible refine (tlv_Decode.calls k (fun k_ => k_ < w.heap.size) _ _ l0 t710 t713 _ ?side1 A6.out).mono ?_); (case side1 => exact Kd.V_mk HC0.out (Kd.F_below (Kd.C_F (Kd.heap_int .u8) HR0.out) (by repeat (first | (with_reducible first | exact HB.out | apply below_alloc | apply pw_below_drewN | apply below_drew1) | exact HB.out)))); rintro e w23 ⟨v711, rfl, ho0, hb⟩; refine ⟨_, rfl, ?_⟩; have n0_ := Aside0.mk (Kd.R_lower (Kd.R_mono (ok' := fun k_ => True) ho0 (fun _ hk_ => trivial)) (below_size (by repeat (first | (with_reducible first | exact HB.out | apply below_alloc | apply pw_below_drewN | apply below_drew1) | exact HB.out)))); have n1_ := Aside0.mk (below_step (by repeat (first | (with_reducible first | exact HB.out | apply below_alloc | apply pw_below_drewN | apply below_drew1) | exact HB.out)) hb); clear HB; have HO712 := n0_; have HB := n1_; clear n0_ n1_; (try clear hb); (try clear hb2); (try clear hk); (try clear hi); (try clear ho0); obtain ⟨Ao24, co24, eo24⟩ := Kd.R_slice HO712.out; subst eo24))
       go_ret
       exact ⟨by first | rfl | (simp [errW_none, errW_some] <;> rfl) | (simp [*, errW_none, errW_some] <;> rfl), by repeat (first | (with_reducible first | exact HB.out | apply below_alloc | apply pw_below_drewN | apply below_drew1) | exact HB.out)⟩
      ·rw [if_neg c21] at H
       have c21b0 : (t713 == 2) = false := beq_eq_false_iff_ne.mpr c21
       have c21b1 : (t713 != 2) = true := bne_iff_ne.mpr c21
       exact absurd ((Option.some.inj H).trans hr_.out) (by simp)
     ·rw [if_neg c20] at H
      have c20b0 : decide (16777215 < (l0.length : Int)) = false := decide_eq_false c20
      have c20b1 : decide (16777215 < l0.length) = false := decide_eq_false (by omega)
      clear c20
      by_cases c25 : t713 = 2
      ·rw [if_pos c25] at H
       have c25b0 : (t713 == 2) = true := beq_iff_eq.mpr c25
       have c25b1 : (t713 != 2) = false := bne_eq_false_iff_eq.mpr c25
       clear c25
       exact absurd ((Option.some.inj H).trans hr_.out) (by simp)
      ·rw [if_neg c25] at H
       have c25b0 : (t713 == 2) = false := beq_eq_false_iff_ne.mpr c25
       have c25b1 : (t713 != 2) = true := bne_iff_ne.mpr c25
       obtain rfl := Option.some.inj H
       go_enter Try.func12, Try.ntmps12
       go_wp2_with (first | ((with_reducible refine gate_callee (f := 30) rfl ?_); refine goesL_ (some 9) rfl rfl Try.func30 (by kernel_rfl) rfl #[] rfl (by (try simp only [List.map_toArray, List.map_cons, List.map_nil]); first | done | rfl | (simp only [List.length_drop, List.length_take]; rfl)) ?_; (with_reducible refine (stratumlaw05_lives.calls k  true _ A2.out).mono ?_); rintro e w26 ⟨rfl, hb⟩; refine ⟨_, rfl, ?_⟩; have n0_ := Aside0.mk (below_step (by repeat (first | (with_reducible first | exact HB.out | apply below_alloc | apply pw_below_drewN | apply below_drew1) | exact HB.out)) hb); clear HB; have HB := n0_; clear n0_; (try clear hb); (try clear hb2); (try clear hk); (try clear hi)) | ((with_reducible refine gate_callee (f := 40) rfl ?_); refine goesL_ (some 16) rfl rfl Try.func40 (by kernel_rfl) rfl #[.slice A0 l0.length c0] rfl (by (try simp only [List.map_toArray, List.map_cons, List.map_nil]); first | done | rfl | (simp only [List.length_drop, List.length_take]; rfl)) ?_; (with_reducible refine (tlv_Decode.calls k (fun k_ => k_ < w.heap.size) _ _ l0 t710 t713 _ ?side1 A6.out).mono ?_); (case side1 => exact Kd.V_mk HC0.out (Kd.F_below (Kd.C_F (Kd.heap_int .u8) HR0.out) (by repeat (first | (with_reducible first | exact HB.out | apply below_alloc | apply pw_below_drewN | apply below_drew1) | exact HB.out)))); rintro e w27 ⟨v711, rfl, ho0, hb⟩; refine ⟨_, rfl, ?_⟩; have n0_ := Aside0.mk (Kd.R_lower (Kd.R_mono (ok' := fun k_ => True) ho0 (fun _ hk_ => trivial)) (below_size (by repeat (first | (with_reducible first | exact HB.out | apply below_alloc | apply pw_below_drewN | apply below_drew1) | exact HB.out)))); have n1_ := Aside0.mk (below_step (by repeat (first | (with_reducible first | exact HB.out | apply below_alloc | apply pw_below_drewN | apply below_drew1) | exact HB.out)) hb); clear HB; have HO712 := n0_; have HB := n1_; clear n0_ n1_; (try clear hb); (try clear hb2); (try clear hk); (try clear hi); (try clear ho0); obtain ⟨Ao28, co28, eo28⟩ := Kd.R_slice HO712.out; subst eo28))
       go_ret
       exact ⟨by first | rfl | (simp [errW_none, errW_some] <;> rfl) | (simp [*, errW_none, errW_some] <;> rfl), by repeat (first | (with_reducible first | exact HB.out | apply below_alloc | apply pw_below_drewN | apply below_drew1) | exact HB.out)⟩
    ·rw [if_neg c19] at H
     have c19b0 : ((t710.length : Int) == 0) = false := beq_eq_false_iff_ne.mpr c19
     have c19b1 : ((t710.length : Int) != 0) = true := bne_iff_ne.mpr c19
     have c19b2 : ¬ (t710 = []) := fun h_ => c19 (by rw [h_]; rfl)
     exact absurd ((Option.some.inj H).trans hr_.out) (by simp)
 ·replace c3 := Bool.eq_false_iff.mpr c3
  subst c3
  have H1 : (some false) = some r := by rw [if_neg (show ¬ (false = true) by decide)] at H; exact H
  clear H
  have H := H1
  clear H1
  exact absurd ((Option.some.inj H).trans hr_.out) (by simp)
/-- THE ONE PURE STATEMENT of stratumlaw05_TlvForth: yours. -/
def stratumlaw05_TlvForth.Pure : Prop := ∀ (l0 : List Int), l0.length ≤ maxLen → l0.length * 1 ≤ 140737488351232 → (∀ x ∈ l0, (Lit.int .u8 x).wf = true) → ∃ k, stratumlaw05_TlvForth.f k l0 = some true
theorem stratumlaw05_TlvForth.walk (P : stratumlaw05_TlvForth.Pure) (a0 : Option Addr) (len0 cap0 : Nat) (z0 : List Int) (w : World) (w0 : (a0 = none ∧ len0 = 0 ∧ cap0 = 0 ∧ z0 = []) ∨ ∃ x, a0 = some x ∧ len0 ≤ cap0 ∧ cap0 ≤ maxLen ∧ z0.length = cap0 ∧ (∀ i, i < z0.length → w.cell? (x.add i) = some (.int .u8 (z0.getD i 0))) ∧ ∀ n ∈ z0, (Lit.int .u8 n).wf = true) (y0 : len0 * 1 ≤ 140737488351232) :
  Calls Try.prog 12 #[.slice a0 len0 cap0] w fun e w' => e = .returned (.bool true) ∧ Below w.heap.size w w' := by
 obtain ⟨l0, rfl, hr0, hm0, hw0, hc0⟩ := ReadsInt.ofRowC w0
 obtain ⟨k, h⟩ := P l0 hm0 y0 hw0
 refine (stratumlaw05_TlvForth.calls k _ _ l0 true w (Kd.C_of_reads (d := (0 : Int)) (h1 := fun _ => rfl) hr0) hc0 h ⟨rfl⟩).mono ?_
 rintro e w' ⟨rfl, hd⟩
 exact ⟨rfl, hd⟩
def stratumlaw05_TlvPieces.j0 : Nat → List (S53) → Int → Bool → Option (Bool)
 | 0, _, _, _ => none
 | k + 1, x0, x1, x24 => if x24 = true then (some true) else ((tlv_Encode.f k x0).bind fun bt723 => (if 0 ≤ x1 then (if x1 ≤ (x0.length : Int) then ((tlv_Encode.f k (x0.take (x1 : Int).toNat)).bind fun bt731 => ((tlv_Encode.f k (x0.drop (x1 : Int).toNat)).bind fun bt739 => (if bt723.2 = 0 then (if bt731.2 = 0 then (if bt739.2 = 0 then (if (strOfNums bt731.1).size + (strOfNums bt739.1).size ≤ 9223372036854775807 then (some ((strOfNums bt723.1).toList == ((strOfNums bt731.1) ++ (strOfNums bt739.1)).toList)) else (none)) else (some false)) else (some false)) else (if bt723.2 = 2 then (if bt731.2 = 1 then (some false) else (some (bt739.2 != 1))) else (some true))))) else (none)) else (none)))
def stratumlaw05_TlvPieces.f (k : Nat) (l0 : List (S53)) (a1 : Int) : Option (Bool) := (stratumlaw05_lives.f k).bind fun t721 => (if t721 = true then ((stratumlaw05_heavy.f k l0).bind fun t722 => (if t722 = true then (stratumlaw05_TlvPieces.j0 k l0 a1 true) else (if a1 < 0 then (stratumlaw05_TlvPieces.j0 k l0 a1 true) else (stratumlaw05_TlvPieces.j0 k l0 a1 (decide ((l0.length : Int) < a1)))))) else (some false))
set_option maxHeartbeats 8000000 in
set_option maxRecDepth 100000 in
theorem stratumlaw05_TlvPieces.calls (k : Nat) (A0 : Option Addr) (c0 : Nat) (l0 : List (S53)) (a1 : Int) (r : Bool) (w : World) (hr0 : Kd.C k53 w A0 l0.length l0) (hc0 : l0.length ≤ c0) (h : stratumlaw05_TlvPieces.f k l0 a1 = some r) (hr_ : Aside0 (r = true)) :
  Calls Try.prog 13 #[.slice A0 l0.length c0, .int .i64 a1] w fun e w' => e = .returned (.bool r) ∧ Below w.heap.size w w' := by
 have HR0 := Aside0.mk hr0
 have HC0 := Aside0.mk hc0
 clear hr0 hc0
 have HB := Aside0.mk (Below.refl w.heap.size w)
 have H : ((stratumlaw05_lives.f k).bind fun t721 => (if t721 = true then ((stratumlaw05_heavy.f k l0).bind fun t722 => (if t722 = true then (stratumlaw05_TlvPieces.j0 k l0 a1 true) else (if a1 < 0 then (stratumlaw05_TlvPieces.j0 k l0 a1 true) else (stratumlaw05_TlvPieces.j0 k l0 a1 (decide ((l0.length : Int) < a1)))))) else (some false))) = some r := h
 clear h
 replace H := Option.bind_eq_some_iff.mp H
 obtain ⟨t721, A30, H⟩ := H
 replace H : (if t721 = true then ((stratumlaw05_heavy.f k l0).bind fun t722 => (if t722 = true then (stratumlaw05_TlvPieces.j0 k l0 a1 true) else (if a1 < 0 then (stratumlaw05_TlvPieces.j0 k l0 a1 true) else (stratumlaw05_TlvPieces.j0 k l0 a1 (decide ((l0.length : Int) < a1)))))) else (some false)) = some r := H
 have A3 := Aside0.mk A30
 clear A30
 by_cases c4 : t721 = true
 ·subst c4
  have H1 : ((stratumlaw05_heavy.f k l0).bind fun t722 => (if t722 = true then (stratumlaw05_TlvPieces.j0 k l0 a1 true) else (if a1 < 0 then (stratumlaw05_TlvPieces.j0 k l0 a1 true) else (stratumlaw05_TlvPieces.j0 k l0 a1 (decide ((l0.length : Int) < a1)))))) = some r := by rw [if_pos rfl] at H; exact H
  clear H
  have H := H1
  clear H1
  have HC5 := Aside0.mk H
  clear H
  go_enter Try.func13, Try.ntmps13
  go_upto_region 3 with (first | ((with_reducible refine gate_callee (f := 30) rfl ?_); refine goesL_ (some 11) rfl rfl Try.func30 (by kernel_rfl) rfl #[] rfl (by (try simp only [List.map_toArray, List.map_cons, List.map_nil]); first | done | rfl | (simp only [List.length_drop, List.length_take]; rfl)) ?_; (with_reducible refine (stratumlaw05_lives.calls k  true _ A3.out).mono ?_); rintro e w6 ⟨rfl, hb⟩; refine ⟨_, rfl, ?_⟩; have n0_ := Aside0.mk (below_step (by repeat (first | (with_reducible first | exact HB.out | apply below_alloc | apply pw_below_drewN | apply below_drew1) | exact HB.out)) hb); clear HB; have HB := n0_; clear n0_; (try clear hb); (try clear hb2); (try clear hk); (try clear hi)))
  (try simp only [Act.put, List.setIfInBounds_toArray, List.set_cons_zero, List.set_cons_succ])
  go_cut [24] (fun v24 wc => ∃ (kq : Nat) (x24_4 : Bool), v24 = .bool x24_4 ∧ Aside0 (stratumlaw05_TlvPieces.j0 kq l0 a1 x24_4 = some r) ∧ Aside0 (kq ≤ k) ∧ Aside0 (Below w.heap.size w wc))
  case first =>
   have H := HC5.out
   clear HC5
   replace H := Option.bind_eq_some_iff.mp H
   obtain ⟨t722, A70, H⟩ := H
   replace H : (if t722 = true then (stratumlaw05_TlvPieces.j0 k l0 a1 true) else (if a1 < 0 then (stratumlaw05_TlvPieces.j0 k l0 a1 true) else (stratumlaw05_TlvPieces.j0 k l0 a1 (decide ((l0.length : Int) < a1))))) = some r := H
   have A7 := Aside0.mk A70
   clear A70
   by_cases c8 : t722 = true
   ·subst c8
    have H1 : (stratumlaw05_TlvPieces.j0 k l0 a1 true) = some r := by rw [if_pos rfl] at H; exact H
    clear H
    have H := H1
    clear H1
    have H' := Aside0.mk H
    clear H
    go_wp2_with (first | ((with_reducible refine gate_callee (f := 31) rfl ?_); refine goesL_ (some 14) rfl rfl Try.func31 (by kernel_rfl) rfl #[.slice A0 l0.length c0] rfl (by (try simp only [List.map_toArray, List.map_cons, List.map_nil]); first | done | rfl | (simp only [List.length_drop, List.length_take]; rfl)) ?_; (with_reducible refine (stratumlaw05_heavy.calls k _ _ l0 true _ ?side1 ?side2 A7.out).mono ?_); (case side1 => repeat (first | exact (Kd.C_below HR0.out HB.out) | (with_reducible refine Kd.C_alloc ?_ _) | (with_reducible refine Kd.C_drewN ?_ _) | (with_reducible refine Kd.C_drew ?_))); (case side2 => exact HC0.out); rintro e w' ⟨rfl, ⟨nd, rfl⟩⟩; refine ⟨_, rfl, ?_⟩))
    go_meet
    case rel => exact ⟨_, (true), (by first | rfl | (simp; done) | (simp [*]; done)), H', ⟨by first | omega | exact Nat.le_refl _⟩, ⟨by repeat (first | (with_reducible first | exact HB.out | apply below_alloc | apply pw_below_drewN | apply below_drew1) | exact HB.out)⟩⟩
   ·replace c8 := Bool.eq_false_iff.mpr c8
    subst c8
    have H1 : (if a1 < 0 then (stratumlaw05_TlvPieces.j0 k l0 a1 true) else (stratumlaw05_TlvPieces.j0 k l0 a1 (decide ((l0.length : Int) < a1)))) = some r := by rw [if_neg (show ¬ (false = true) by decide)] at H; exact H
    clear H
    have H := H1
    clear H1
    by_cases c9 : a1 < 0
    ·rw [if_pos c9] at H
     have c9b0 : decide (a1 < 0) = true := decide_eq_true c9
     clear c9
     (first | rw [c9b0] | (simp only [i64_w, i32_w]; rw [c9b0]) | skip)
     have H' := Aside0.mk H
     clear H
     go_wp2_with (first | ((with_reducible refine gate_callee (f := 31) rfl ?_); refine goesL_ (some 14) rfl rfl Try.func31 (by kernel_rfl) rfl #[.slice A0 l0.length c0] rfl (by (try simp only [List.map_toArray, List.map_cons, List.map_nil]); first | done | rfl | (simp only [List.length_drop, List.length_take]; rfl)) ?_; (with_reducible refine (stratumlaw05_heavy.calls k _ _ l0 false _ ?side1 ?side2 A7.out).mono ?_); (case side1 => repeat (first | exact (Kd.C_below HR0.out HB.out) | (with_reducible refine Kd.C_alloc ?_ _) | (with_reducible refine Kd.C_drewN ?_ _) | (with_reducible refine Kd.C_drew ?_))); (case side2 => exact HC0.out); rintro e w' ⟨rfl, ⟨nd, rfl⟩⟩; refine ⟨_, rfl, ?_⟩))
     go_meet
     case rel => exact ⟨_, (true), (by first | rfl | (simp; done) | (simp [*]; done)), H', ⟨by first | omega | exact Nat.le_refl _⟩, ⟨by repeat (first | (with_reducible first | exact HB.out | apply below_alloc | apply pw_below_drewN | apply below_drew1) | exact HB.out)⟩⟩
    ·rw [if_neg c9] at H
     have c9b0 : decide (a1 < 0) = false := decide_eq_false c9
     clear c9
     (first | rw [c9b0] | (simp only [i64_w, i32_w]; rw [c9b0]) | skip)
     have H' := Aside0.mk H
     clear H
     go_wp2_with (first | ((with_reducible refine gate_callee (f := 31) rfl ?_); refine goesL_ (some 14) rfl rfl Try.func31 (by kernel_rfl) rfl #[.slice A0 l0.length c0] rfl (by (try simp only [List.map_toArray, List.map_cons, List.map_nil]); first | done | rfl | (simp only [List.length_drop, List.length_take]; rfl)) ?_; (with_reducible refine (stratumlaw05_heavy.calls k _ _ l0 false _ ?side1 ?side2 A7.out).mono ?_); (case side1 => repeat (first | exact (Kd.C_below HR0.out HB.out) | (with_reducible refine Kd.C_alloc ?_ _) | (with_reducible refine Kd.C_drewN ?_ _) | (with_reducible refine Kd.C_drew ?_))); (case side2 => exact HC0.out); rintro e w' ⟨rfl, ⟨nd, rfl⟩⟩; refine ⟨_, rfl, ?_⟩))
     go_meet
     case rel => exact ⟨_, (decide ((l0.length : Int) < a1)), (by first | rfl | (simp; done) | (simp [*]; done)), H', ⟨by first | omega | exact Nat.le_refl _⟩, ⟨by repeat (first | (with_reducible first | exact HB.out | apply below_alloc | apply pw_below_drewN | apply below_drew1) | exact HB.out)⟩⟩
  case rest =>
   clear HC5
   try clear c1
   try clear p2
   try clear c3
   try clear c4
   try clear c8
   try clear c9
   try clear c9b0
   obtain ⟨kq, x24_4, rfl, HA, HJ4, HB⟩ := hcut
   cases kq with
   | zero => exact absurd HA.out (by simp [stratumlaw05_TlvPieces.j0])
   | succ kj4 =>
    have H := HA.out
    clear HA
    simp only [stratumlaw05_TlvPieces.j0] at H
    by_cases c10 : x24_4 = true
    ·subst c10
     have H1 : (some true) = some r := by rw [if_pos rfl] at H; exact H
     clear H
     have H := H1
     clear H1
     obtain rfl := Option.some.inj H
     go_wp2
     go_ret
     exact ⟨by first | rfl | (simp [errW_none, errW_some] <;> rfl) | (simp [*, errW_none, errW_some] <;> rfl), by repeat (first | (with_reducible first | exact HB.out | apply below_alloc | apply pw_below_drewN | apply below_drew1) | exact HB.out)⟩
    ·replace c10 := Bool.eq_false_iff.mpr c10
     subst c10
     have H1 : ((tlv_Encode.f kj4 l0).bind fun bt723 => (if 0 ≤ a1 then (if a1 ≤ (l0.length : Int) then ((tlv_Encode.f kj4 (l0.take (a1 : Int).toNat)).bind fun bt731 => ((tlv_Encode.f kj4 (l0.drop (a1 : Int).toNat)).bind fun bt739 => (if bt723.2 = 0 then (if bt731.2 = 0 then (if bt739.2 = 0 then (if (strOfNums bt731.1).size + (strOfNums bt739.1).size ≤ 9223372036854775807 then (some ((strOfNums bt723.1).toList == ((strOfNums bt731.1) ++ (strOfNums bt739.1)).toList)) else (none)) else (some false)) else (some false)) else (if bt723.2 = 2 then (if bt731.2 = 1 then (some false) else (some (bt739.2 != 1))) else (some true))))) else (none)) else (none))) = some r := by rw [if_neg (show ¬ (false = true) by decide)] at H; exact H
     clear H
     have H := H1
     clear H1
     replace H := Option.bind_eq_some_iff.mp H
     obtain ⟨⟨t723, t724⟩, A110, H⟩ := H
     replace H : (if 0 ≤ a1 then (if a1 ≤ (l0.length : Int) then ((tlv_Encode.f kj4 (l0.take (a1 : Int).toNat)).bind fun bt731 => ((tlv_Encode.f kj4 (l0.drop (a1 : Int).toNat)).bind fun bt739 => (if t724 = 0 then (if bt731.2 = 0 then (if bt739.2 = 0 then (if (strOfNums bt731.1).size + (strOfNums bt739.1).size ≤ 9223372036854775807 then (some ((strOfNums t723).toList == ((strOfNums bt731.1) ++ (strOfNums bt739.1)).toList)) else (none)) else (some false)) else (some false)) else (if t724 = 2 then (if bt731.2 = 1 then (some false) else (some (bt739.2 != 1))) else (some true))))) else (none)) else (none)) = some r := H
     have A11 := Aside0.mk A110
     clear A110
     by_cases c12 : 0 ≤ a1
     ·rw [if_pos c12] at H
      have c12b0 := eq_true c12
      have c12b1 : decide (0 ≤ a1) = true := decide_eq_true c12
      clear c12
      by_cases c13 : a1 ≤ (l0.length : Int)
      ·rw [if_pos c13] at H
       have c13b0 := eq_true c13
       have c13b1 : decide (a1 ≤ (l0.length : Int)) = true := decide_eq_true c13
       clear c13
       obtain ⟨y727, hy727⟩ : ∃ y_ : List (S53), y_ = (l0.take (a1 : Int).toNat) := ⟨_, rfl⟩
       replace H : ((tlv_Encode.f kj4 y727).bind fun bt731 => ((tlv_Encode.f kj4 (l0.drop (a1 : Int).toNat)).bind fun bt739 => (if t724 = 0 then (if bt731.2 = 0 then (if bt739.2 = 0 then (if (strOfNums bt731.1).size + (strOfNums bt739.1).size ≤ 9223372036854775807 then (some ((strOfNums t723).toList == ((strOfNums bt731.1) ++ (strOfNums bt739.1)).toList)) else (none)) else (some false)) else (some false)) else (if t724 = 2 then (if bt731.2 = 1 then (some false) else (some (bt739.2 != 1))) else (some true))))) = some r := by first | (rw [hy727]; with_reducible exact H) | (have H2_ := (Option.bind_some _ _).symm.trans H; rw [hy727]; with_reducible exact H2_) | (have H2_ := (Option.bind_some _ _).symm.trans H; with_reducible exact H2_) | with_reducible exact H | (rw [hy727]; exact H) | exact H
       have Ny727 := Aside0.mk hy727
       clear hy727
       replace H := Option.bind_eq_some_iff.mp H
       obtain ⟨⟨t731, t732⟩, A140, H⟩ := H
       replace H : ((tlv_Encode.f kj4 (l0.drop (a1 : Int).toNat)).bind fun bt739 => (if t724 = 0 then (if t732 = 0 then (if bt739.2 = 0 then (if (strOfNums t731).size + (strOfNums bt739.1).size ≤ 9223372036854775807 then (some ((strOfNums t723).toList == ((strOfNums t731) ++ (strOfNums bt739.1)).toList)) else (none)) else (some false)) else (some false)) else (if t724 = 2 then (if t732 = 1 then (some false) else (some (bt739.2 != 1))) else (some true)))) = some r := H
       have A14 := Aside0.mk A140
       clear A140
       have c15b0 := eq_true (of_decide_eq_true (by first | (with_reducible assumption) | assumption) : 0 ≤ a1)
       have c16b0 := eq_true (of_decide_eq_true (by first | (with_reducible assumption) | assumption) : a1 ≤ (l0.length : Int))
       obtain ⟨y735, hy735⟩ : ∃ y_ : List (S53), y_ = (l0.drop (a1 : Int).toNat) := ⟨_, rfl⟩
       replace H : ((tlv_Encode.f kj4 y735).bind fun bt739 => (if t724 = 0 then (if t732 = 0 then (if bt739.2 = 0 then (if (strOfNums t731).size + (strOfNums bt739.1).size ≤ 9223372036854775807 then (some ((strOfNums t723).toList == ((strOfNums t731) ++ (strOfNums bt739.1)).toList)) else (none)) else (some false)) else (some false)) else (if t724 = 2 then (if t732 = 1 then (some false) else (some (bt739.2 != 1))) else (some true)))) = some r := by first | (rw [hy735]; with_reducible exact H) | (have H2_ := (Option.bind_some _ _).symm.trans H; rw [hy735]; with_reducible exact H2_) | (have H2_ := (Option.bind_some _ _).symm.trans H; with_reducible exact H2_) | with_reducible exact H | (rw [hy735]; exact H) | exact H
       have Ny735 := Aside0.mk hy735
       clear hy735
       replace H := Option.bind_eq_some_iff.mp H
       obtain ⟨⟨t739, t740⟩, A170, H⟩ := H
       replace H : (if t724 = 0 then (if t732 = 0 then (if t740 = 0 then (if (strOfNums t731).size + (strOfNums t739).size ≤ 9223372036854775807 then (some ((strOfNums t723).toList == ((strOfNums t731) ++ (strOfNums t739)).toList)) else (none)) else (some false)) else (some false)) else (if t724 = 2 then (if t732 = 1 then (some false) else (some (t740 != 1))) else (some true))) = some r := H
       have A17 := Aside0.mk A170
       clear A170
       by_cases c18 : t724 = 0
       ·rw [if_pos c18] at H
        have c18b0 : (t724 == 0) = true := beq_iff_eq.mpr c18
        have c18b1 : (t724 != 0) = false := bne_eq_false_iff_eq.mpr c18
        clear c18
        by_cases c19 : t732 = 0
        ·rw [if_pos c19] at H
         have c19b0 : (t732 == 0) = true := beq_iff_eq.mpr c19
         have c19b1 : (t732 != 0) = false := bne_eq_false_iff_eq.mpr c19
         clear c19
         by_cases c20 : t740 = 0
         ·rw [if_pos c20] at H
          have c20b0 : (t740 == 0) = true := beq_iff_eq.mpr c20
          have c20b1 : (t740 != 0) = false := bne_eq_false_iff_eq.mpr c20
          clear c20
          by_cases c21 : (strOfNums t731).size + (strOfNums t739).size ≤ 9223372036854775807
          ·rw [if_pos c21] at H
           have c21b0 := eq_true c21
           have c21b1 : decide ((strOfNums t731).size + (strOfNums t739).size ≤ 9223372036854775807) = true := decide_eq_true c21
           try have c21b2 : (9223372036854775807 < (strOfNums t731).size + (strOfNums t739).size) = False := eq_false (Nat.not_lt.2 c21)
           obtain rfl := Option.some.inj H
           go_wp2_with (first | ((with_reducible refine gate_callee (f := 35) rfl ?_); refine goesL_ (some 27) rfl rfl Try.func35 (by kernel_rfl) rfl #[.slice A0 l0.length c0] rfl (by (try simp only [List.map_toArray, List.map_cons, List.map_nil]); first | done | rfl | (simp only [List.length_drop, List.length_take]; rfl)) ?_; (with_reducible refine (tlv_Encode.calls kj4 _ _ l0 t723 t724 _ ?side1 ?side2 A11.out).mono ?_); (case side1 => repeat (first | exact (Kd.C_below HR0.out HB.out) | (with_reducible refine Kd.C_alloc ?_ _) | (with_reducible refine Kd.C_drewN ?_ _) | (with_reducible refine Kd.C_drew ?_))); (case side2 => exact HC0.out); rintro e w22 ⟨v725, rfl, ho0, hb⟩; refine ⟨_, rfl, ?_⟩; have n0_ := Aside0.mk (Kd.R_lower ho0 (below_size (by repeat (first | (with_reducible first | exact HB.out | apply below_alloc | apply pw_below_drewN | apply below_drew1) | exact HB.out)))); have n1_ := Aside0.mk (below_step (by repeat (first | (with_reducible first | exact HB.out | apply below_alloc | apply pw_below_drewN | apply below_drew1) | exact HB.out)) hb); clear HB; have HO726 := n0_; have HB := n1_; clear n0_ n1_; (try clear hb); (try clear hb2); (try clear hk); (try clear hi); (try clear ho0); have q23 : (a1 : Int) ≤ ((l0.length : Int) : Int) := of_decide_eq_true (by first | (with_reducible assumption) | assumption); obtain ⟨i023, hi023, _, hsz23, _⟩ := info_parts info53; have hroom23 : l0.length ≤ c0 := HC0.out; have hC23 : Kd.C k53 _ A0 l0.length l0 := HR0.out; have hcut23 := cut_to (P := Try.prog) 39 53 .i64 Try.underlying39 hi023 A0 l0.length c0 a1 (of_decide_eq_true (by first | (with_reducible assumption) | assumption)) q23 hroom23; have hr23 := Kd.C_take (m := (a1 : Int).toNat) hC23 (by omega); have hy23 : y727.length = (a1 : Int).toNat := (by rw [Ny727.out, List.length_take]; omega); rw [← Ny727.out] at hr23; rw [← hy23] at hcut23; have HR730 := Aside0.mk hr23; have HC730 := Aside0.mk (show y727.length ≤ c0 from by omega); clear hr23 hC23 hroom23 hi023 hsz23; have KY23 := Aside0.mk hy23; clear hy23; replace q23 := eq_true q23) | ((with_reducible refine gate_callee (f := 35) rfl ?_); refine goesL_ (some 34) rfl rfl Try.func35 (by kernel_rfl) rfl #[.slice A0 y727.length c0] rfl (by (try simp only [List.map_toArray, List.map_cons, List.map_nil]); first | done | rfl | (simp only [List.length_drop, List.length_take]; rfl)) ?_; (with_reducible refine (tlv_Encode.calls kj4 _ _ y727 t731 t732 _ ?side1 ?side2 A14.out).mono ?_); (case side1 => repeat (first | exact (Kd.C_below HR730.out HB.out) | (with_reducible refine Kd.C_alloc ?_ _) | (with_reducible refine Kd.C_drewN ?_ _) | (with_reducible refine Kd.C_drew ?_))); (case side2 => exact HC730.out); rintro e w24 ⟨v733, rfl, ho0, hb⟩; refine ⟨_, rfl, ?_⟩; have n0_ := Aside0.mk (Kd.R_elder' (by (with_reducible repeat (first | apply Kd.R_alloc | apply Kd.R_drewN | apply Kd.R_drew)); exact HO726.out) (Kd.R_base ho0) hb); have n1_ := Aside0.mk (Kd.R_lower (Kd.R_new' ho0 (Kd.R_lt (by (with_reducible repeat (first | apply Kd.R_alloc | apply Kd.R_drewN | apply Kd.R_drew)); exact HO726.out))) (below_size (by repeat (first | (with_reducible first | exact HB.out | apply below_alloc | apply pw_below_drewN | apply below_drew1) | exact HB.out)))); have n2_ := Aside0.mk (below_step (by repeat (first | (with_reducible first | exact HB.out | apply below_alloc | apply pw_below_drewN | apply below_drew1) | exact HB.out)) hb); clear HO726; clear HB; have HO726 := n0_; have HO734 := n1_; have HB := n2_; clear n0_ n1_ n2_; (try clear hb); (try clear hb2); (try clear hk); (try clear hi); (try clear ho0); have q25 : (a1 : Int) ≤ ((l0.length : Int) : Int) := of_decide_eq_true (by first | (with_reducible assumption) | assumption); obtain ⟨i025, hi025, _, hsz25, _⟩ := info_parts info53; have hroom25 : l0.length ≤ c0 := HC0.out; have hC25 : Kd.C k53 _ A0 l0.length l0 := HR0.out; have q025 : (0 : Int) ≤ (a1 : Int) := of_decide_eq_true (by first | (with_reducible assumption) | assumption); have hcut25 := cut_from (P := Try.prog) 39 53 .i64 Try.underlying39 hi025 4 hsz25 A0 l0.length c0 a1 q025 q25; have hr25 := Kd.C_drop (m := (a1 : Int).toNat) (c := c0) hC25 (by omega) hroom25; obtain ⟨A25, hA25⟩ : ∃ A1, A1 = (if c0 = (a1 : Int).toNat then A0 else (A0 : Option Addr).map (·.add ((a1 : Int).toNat * 4))) := ⟨_, rfl⟩; obtain ⟨c25, hc25⟩ : ∃ c1, c1 = c0 - (a1 : Int).toNat := ⟨_, rfl⟩; have hy25 : y735.length = l0.length - (a1 : Int).toNat := (by rw [Ny735.out, List.length_drop] <;> omega); rw [show (l0).drop (a1 : Int).toNat = y735 from Ny735.out.symm] at hr25; replace hr25 : Kd.C k53 _ A25 y735.length y735 := (by rw [hA25]; exact hr25); rw [← hy25, ← hA25, ← hc25] at hcut25; have HR738 := Aside0.mk hr25; have HC738 := Aside0.mk (show y735.length ≤ c25 from by rw [hy25, hc25]; exact Nat.sub_le_sub_right hroom25 _); clear hr25 hC25 hroom25 hi025 hsz25 hc25; have KY25 := Aside0.mk hy25; have KA25 := Aside0.mk hA25; clear hy25 hA25; replace q25 := eq_true q25) | ((with_reducible refine gate_callee (f := 35) rfl ?_); refine goesL_ (some 41) rfl rfl Try.func35 (by kernel_rfl) rfl #[.slice A25 y735.length c25] rfl (by (try simp only [List.map_toArray, List.map_cons, List.map_nil]); first | done | rfl | (simp only [List.length_drop, List.length_take]; rfl)) ?_; (with_reducible refine (tlv_Encode.calls kj4 _ _ y735 t739 t740 _ ?side1 ?side2 A17.out).mono ?_); (case side1 => repeat (first | exact (Kd.C_below HR738.out HB.out) | (with_reducible refine Kd.C_alloc ?_ _) | (with_reducible refine Kd.C_drewN ?_ _) | (with_reducible refine Kd.C_drew ?_))); (case side2 => exact HC738.out); rintro e w26 ⟨v741, rfl, ho0, hb⟩; refine ⟨_, rfl, ?_⟩; have n0_ := Aside0.mk (Kd.R_elder' (by (with_reducible repeat (first | apply Kd.R_alloc | apply Kd.R_drewN | apply Kd.R_drew)); exact HO726.out) (Kd.R_base ho0) hb); have n1_ := Aside0.mk (Kd.R_elder' (by (with_reducible repeat (first | apply Kd.R_alloc | apply Kd.R_drewN | apply Kd.R_drew)); exact HO734.out) (Kd.R_base ho0) hb); have n2_ := Aside0.mk (Kd.R_lower (Kd.R_new' (Kd.R_new' ho0 (Kd.R_lt (by (with_reducible repeat (first | apply Kd.R_alloc | apply Kd.R_drewN | apply Kd.R_drew)); exact HO726.out))) (Kd.R_lt (by (with_reducible repeat (first | apply Kd.R_alloc | apply Kd.R_drewN | apply Kd.R_drew)); exact HO734.out))) (below_size (by repeat (first | (with_reducible first | exact HB.out | apply below_alloc | apply pw_below_drewN | apply below_drew1) | exact HB.out)))); have n3_ := Aside0.mk (below_step (by repeat (first | (with_reducible first | exact HB.out | apply below_alloc | apply pw_below_drewN | apply below_drew1) | exact HB.out)) hb); clear HO726; clear HO734; clear HB; have HO726 := n0_; have HO734 := n1_; have HO742 := n2_; have HB := n3_; clear n0_ n1_ n2_ n3_; (try clear hb); (try clear hb2); (try clear hk); (try clear hi); (try clear ho0); have hcv27 := own_string (P := Try.prog) Try.underlying63 Try.underlying5 Try.underlying9 (Kd.own_of_R HO726.out); have hcv28 := own_string (P := Try.prog) Try.underlying63 Try.underlying5 Try.underlying9 (Kd.own_of_R HO734.out); have hcv29 := own_string (P := Try.prog) Try.underlying63 Try.underlying5 Try.underlying9 (Kd.own_of_R HO742.out)))
           go_ret
           exact ⟨by first | rfl | (simp [errW_none, errW_some] <;> rfl) | (simp [*, errW_none, errW_some] <;> rfl), by repeat (first | (with_reducible first | exact HB.out | apply below_alloc | apply pw_below_drewN | apply below_drew1) | exact HB.out)⟩
          ·rw [if_neg c21] at H
           exact absurd H (by simp)
         ·rw [if_neg c20] at H
          have c20b0 : (t740 == 0) = false := beq_eq_false_iff_ne.mpr c20
          have c20b1 : (t740 != 0) = true := bne_iff_ne.mpr c20
          exact absurd ((Option.some.inj H).trans hr_.out) (by simp)
        ·rw [if_neg c19] at H
         have c19b0 : (t732 == 0) = false := beq_eq_false_iff_ne.mpr c19
         have c19b1 : (t732 != 0) = true := bne_iff_ne.mpr c19
         exact absurd ((Option.some.inj H).trans hr_.out) (by simp)
       ·rw [if_neg c18] at H
        have c18b0 : (t724 == 0) = false := beq_eq_false_iff_ne.mpr c18
        have c18b1 : (t724 != 0) = true := bne_iff_ne.mpr c18
        by_cases c30 : t724 = 2
        ·rw [if_pos c30] at H
         have c30b0 : (t724 == 2) = true := beq_iff_eq.mpr c30
         have c30b1 : (t724 != 2) = false := bne_eq_false_iff_eq.mpr c30
         clear c30
         by_cases c31 : t732 = 1
         ·rw [if_pos c31] at H
          have c31b0 : (t732 == 1) = true := beq_iff_eq.mpr c31
          have c31b1 : (t732 != 1) = false := bne_eq_false_iff_eq.mpr c31
          clear c31
          exact absurd ((Option.some.inj H).trans hr_.out) (by simp)
         ·rw [if_neg c31] at H
          have c31b0 : (t732 == 1) = false := beq_eq_false_iff_ne.mpr c31
          have c31b1 : (t732 != 1) = true := bne_iff_ne.mpr c31
          obtain rfl := Option.some.inj H
          go_wp2_with (first | ((with_reducible refine gate_callee (f := 35) rfl ?_); refine goesL_ (some 27) rfl rfl Try.func35 (by kernel_rfl) rfl #[.slice A0 l0.length c0] rfl (by (try simp only [List.map_toArray, List.map_cons, List.map_nil]); first | done | rfl | (simp only [List.length_drop, List.length_take]; rfl)) ?_; (with_reducible refine (tlv_Encode.calls kj4 _ _ l0 t723 t724 _ ?side1 ?side2 A11.out).mono ?_); (case side1 => repeat (first | exact (Kd.C_below HR0.out HB.out) | (with_reducible refine Kd.C_alloc ?_ _) | (with_reducible refine Kd.C_drewN ?_ _) | (with_reducible refine Kd.C_drew ?_))); (case side2 => exact HC0.out); rintro e w32 ⟨v725, rfl, ho0, hb⟩; refine ⟨_, rfl, ?_⟩; have n0_ := Aside0.mk (Kd.R_lower ho0 (below_size (by repeat (first | (with_reducible first | exact HB.out | apply below_alloc | apply pw_below_drewN | apply below_drew1) | exact HB.out)))); have n1_ := Aside0.mk (below_step (by repeat (first | (with_reducible first | exact HB.out | apply below_alloc | apply pw_below_drewN | apply below_drew1) | exact HB.out)) hb); clear HB; have HO726 := n0_; have HB := n1_; clear n0_ n1_; (try clear hb); (try clear hb2); (try clear hk); (try clear hi); (try clear ho0); have q33 : (a1 : Int) ≤ ((l0.length : Int) : Int) := of_decide_eq_true (by first | (with_reducible assumption) | assumption); obtain ⟨i033, hi033, _, hsz33, _⟩ := info_parts info53; have hroom33 : l0.length ≤ c0 := HC0.out; have hC33 : Kd.C k53 _ A0 l0.length l0 := HR0.out; have hcut33 := cut_to (P := Try.prog) 39 53 .i64 Try.underlying39 hi033 A0 l0.length c0 a1 (of_decide_eq_true (by first | (with_reducible assumption) | assumption)) q33 hroom33; have hr33 := Kd.C_take (m := (a1 : Int).toNat) hC33 (by omega); have hy33 : y727.length = (a1 : Int).toNat := (by rw [Ny727.out, List.length_take]; omega); rw [← Ny727.out] at hr33; rw [← hy33] at hcut33; have HR730 := Aside0.mk hr33; have HC730 := Aside0.mk (show y727.length ≤ c0 from by omega); clear hr33 hC33 hroom33 hi033 hsz33; have KY33 := Aside0.mk hy33; clear hy33; replace q33 := eq_true q33) | ((with_reducible refine gate_callee (f := 35) rfl ?_); refine goesL_ (some 34) rfl rfl Try.func35 (by kernel_rfl) rfl #[.slice A0 y727.length c0] rfl (by (try simp only [List.map_toArray, List.map_cons, List.map_nil]); first | done | rfl | (simp only [List.length_drop, List.length_take]; rfl)) ?_; (with_reducible refine (tlv_Encode.calls kj4 _ _ y727 t731 t732 _ ?side1 ?side2 A14.out).mono ?_); (case side1 => repeat (first | exact (Kd.C_below HR730.out HB.out) | (with_reducible refine Kd.C_alloc ?_ _) | (with_reducible refine Kd.C_drewN ?_ _) | (with_reducible refine Kd.C_drew ?_))); (case side2 => exact HC730.out); rintro e w34 ⟨v733, rfl, ho0, hb⟩; refine ⟨_, rfl, ?_⟩; have n0_ := Aside0.mk (Kd.R_elder' (by (with_reducible repeat (first | apply Kd.R_alloc | apply Kd.R_drewN | apply Kd.R_drew)); exact HO726.out) (Kd.R_base ho0) hb); have n1_ := Aside0.mk (Kd.R_lower (Kd.R_new' ho0 (Kd.R_lt (by (with_reducible repeat (first | apply Kd.R_alloc | apply Kd.R_drewN | apply Kd.R_drew)); exact HO726.out))) (below_size (by repeat (first | (with_reducible first | exact HB.out | apply below_alloc | apply pw_below_drewN | apply below_drew1) | exact HB.out)))); have n2_ := Aside0.mk (below_step (by repeat (first | (with_reducible first | exact HB.out | apply below_alloc | apply pw_below_drewN | apply below_drew1) | exact HB.out)) hb); clear HO726; clear HB; have HO726 := n0_; have HO734 := n1_; have HB := n2_; clear n0_ n1_ n2_; (try clear hb); (try clear hb2); (try clear hk); (try clear hi); (try clear ho0); have q35 : (a1 : Int) ≤ ((l0.length : Int) : Int) := of_decide_eq_true (by first | (with_reducible assumption) | assumption); obtain ⟨i035, hi035, _, hsz35, _⟩ := info_parts info53; have hroom35 : l0.length ≤ c0 := HC0.out; have hC35 : Kd.C k53 _ A0 l0.length l0 := HR0.out; have q035 : (0 : Int) ≤ (a1 : Int) := of_decide_eq_true (by first | (with_reducible assumption) | assumption); have hcut35 := cut_from (P := Try.prog) 39 53 .i64 Try.underlying39 hi035 4 hsz35 A0 l0.length c0 a1 q035 q35; have hr35 := Kd.C_drop (m := (a1 : Int).toNat) (c := c0) hC35 (by omega) hroom35; obtain ⟨A35, hA35⟩ : ∃ A1, A1 = (if c0 = (a1 : Int).toNat then A0 else (A0 : Option Addr).map (·.add ((a1 : Int).toNat * 4))) := ⟨_, rfl⟩; obtain ⟨c35, hc35⟩ : ∃ c1, c1 = c0 - (a1 : Int).toNat := ⟨_, rfl⟩; have hy35 : y735.length = l0.length - (a1 : Int).toNat := (by rw [Ny735.out, List.length_drop] <;> omega); rw [show (l0).drop (a1 : Int).toNat = y735 from Ny735.out.symm] at hr35; replace hr35 : Kd.C k53 _ A35 y735.length y735 := (by rw [hA35]; exact hr35); rw [← hy35, ← hA35, ← hc35] at hcut35; have HR738 := Aside0.mk hr35; have HC738 := Aside0.mk (show y735.length ≤ c35 from by rw [hy35, hc35]; exact Nat.sub_le_sub_right hroom35 _); clear hr35 hC35 hroom35 hi035 hsz35 hc35; have KY35 := Aside0.mk hy35; have KA35 := Aside0.mk hA35; clear hy35 hA35; replace q35 := eq_true q35) | ((with_reducible refine gate_callee (f := 35) rfl ?_); refine goesL_ (some 41) rfl rfl Try.func35 (by kernel_rfl) rfl #[.slice A35 y735.length c35] rfl (by (try simp only [List.map_toArray, List.map_cons, List.map_nil]); first | done | rfl | (simp only [List.length_drop, List.length_take]; rfl)) ?_; (with_reducible refine (tlv_Encode.calls kj4 _ _ y735 t739 t740 _ ?side1 ?side2 A17.out).mono ?_); (case side1 => repeat (first | exact (Kd.C_below HR738.out HB.out) | (with_reducible refine Kd.C_alloc ?_ _) | (with_reducible refine Kd.C_drewN ?_ _) | (with_reducible refine Kd.C_drew ?_))); (case side2 => exact HC738.out); rintro e w36 ⟨v741, rfl, ho0, hb⟩; refine ⟨_, rfl, ?_⟩; have n0_ := Aside0.mk (Kd.R_elder' (by (with_reducible repeat (first | apply Kd.R_alloc | apply Kd.R_drewN | apply Kd.R_drew)); exact HO726.out) (Kd.R_base ho0) hb); have n1_ := Aside0.mk (Kd.R_elder' (by (with_reducible repeat (first | apply Kd.R_alloc | apply Kd.R_drewN | apply Kd.R_drew)); exact HO734.out) (Kd.R_base ho0) hb); have n2_ := Aside0.mk (Kd.R_lower (Kd.R_new' (Kd.R_new' ho0 (Kd.R_lt (by (with_reducible repeat (first | apply Kd.R_alloc | apply Kd.R_drewN | apply Kd.R_drew)); exact HO726.out))) (Kd.R_lt (by (with_reducible repeat (first | apply Kd.R_alloc | apply Kd.R_drewN | apply Kd.R_drew)); exact HO734.out))) (below_size (by repeat (first | (with_reducible first | exact HB.out | apply below_alloc | apply pw_below_drewN | apply below_drew1) | exact HB.out)))); have n3_ := Aside0.mk (below_step (by repeat (first | (with_reducible first | exact HB.out | apply below_alloc | apply pw_below_drewN | apply below_drew1) | exact HB.out)) hb); clear HO726; clear HO734; clear HB; have HO726 := n0_; have HO734 := n1_; have HO742 := n2_; have HB := n3_; clear n0_ n1_ n2_ n3_; (try clear hb); (try clear hb2); (try clear hk); (try clear hi); (try clear ho0)))
          go_ret
          exact ⟨by first | rfl | (simp [errW_none, errW_some] <;> rfl) | (simp [*, errW_none, errW_some] <;> rfl), by repeat (first | (with_reducible first | exact HB.out | apply below_alloc | apply pw_below_drewN | apply below_drew1) | exact HB.out)⟩
        ·rw [if_neg c30] at H
         have c30b0 : (t724 == 2) = false := beq_eq_false_iff_ne.mpr c30
         have c30b1 : (t724 != 2) = true := bne_iff_ne.mpr c30
         obtain rfl := Option.some.inj H
         go_wp2_with (first | ((with_reducible refine gate_callee (f := 35) rfl ?_); refine goesL_ (some 27) rfl rfl Try.func35 (by kernel_rfl) rfl #[.slice A0 l0.length c0] rfl (by (try simp only [List.map_toArray, List.map_cons, List.map_nil]); first | done | rfl | (simp only [List.length_drop, List.length_take]; rfl)) ?_; (with_reducible refine (tlv_Encode.calls kj4 _ _ l0 t723 t724 _ ?side1 ?side2 A11.out).mono ?_); (case side1 => repeat (first | exact (Kd.C_below HR0.out HB.out) | (with_reducible refine Kd.C_alloc ?_ _) | (with_reducible refine Kd.C_drewN ?_ _) | (with_reducible refine Kd.C_drew ?_))); (case side2 => exact HC0.out); rintro e w37 ⟨v725, rfl, ho0, hb⟩; refine ⟨_, rfl, ?_⟩; have n0_ := Aside0.mk (Kd.R_lower ho0 (below_size (by repeat (first | (with_reducible first | exact HB.out | apply below_alloc | apply pw_below_drewN | apply below_drew1) | exact HB.out)))); have n1_ := Aside0.mk (below_step (by repeat (first | (with_reducible first | exact HB.out | apply below_alloc | apply pw_below_drewN | apply below_drew1) | exact HB.out)) hb); clear HB; have HO726 := n0_; have HB := n1_; clear n0_ n1_; (try clear hb); (try clear hb2); (try clear hk); (try clear hi); (try clear ho0); have q38 : (a1 : Int) ≤ ((l0.length : Int) : Int) := of_decide_eq_true (by first | (with_reducible assumption) | assumption); obtain ⟨i038, hi038, _, hsz38, _⟩ := info_parts info53; have hroom38 : l0.length ≤ c0 := HC0.out; have hC38 : Kd.C k53 _ A0 l0.length l0 := HR0.out; have hcut38 := cut_to (P := Try.prog) 39 53 .i64 Try.underlying39 hi038 A0 l0.length c0 a1 (of_decide_eq_true (by first | (with_reducible assumption) | assumption)) q38 hroom38; have hr38 := Kd.C_take (m := (a1 : Int).toNat) hC38 (by omega); have hy38 : y727.length = (a1 : Int).toNat := (by rw [Ny727.out, List.length_take]; omega); rw [← Ny727.out] at hr38; rw [← hy38] at hcut38; have HR730 := Aside0.mk hr38; have HC730 := Aside0.mk (show y727.length ≤ c0 from by omega); clear hr38 hC38 hroom38 hi038 hsz38; have KY38 := Aside0.mk hy38; clear hy38; replace q38 := eq_true q38) | ((with_reducible refine gate_callee (f := 35) rfl ?_); refine goesL_ (some 34) rfl rfl Try.func35 (by kernel_rfl) rfl #[.slice A0 y727.length c0] rfl (by (try simp only [List.map_toArray, List.map_cons, List.map_nil]); first | done | rfl | (simp only [List.length_drop, List.length_take]; rfl)) ?_; (with_reducible refine (tlv_Encode.calls kj4 _ _ y727 t731 t732 _ ?side1 ?side2 A14.out).mono ?_); (case side1 => repeat (first | exact (Kd.C_below HR730.out HB.out) | (with_reducible refine Kd.C_alloc ?_ _) | (with_reducible refine Kd.C_drewN ?_ _) | (with_reducible refine Kd.C_drew ?_))); (case side2 => exact HC730.out); rintro e w39 ⟨v733, rfl, ho0, hb⟩; refine ⟨_, rfl, ?_⟩; have n0_ := Aside0.mk (Kd.R_elder' (by (with_reducible repeat (first | apply Kd.R_alloc | apply Kd.R_drewN | apply Kd.R_drew)); exact HO726.out) (Kd.R_base ho0) hb); have n1_ := Aside0.mk (Kd.R_lower (Kd.R_new' ho0 (Kd.R_lt (by (with_reducible repeat (first | apply Kd.R_alloc | apply Kd.R_drewN | apply Kd.R_drew)); exact HO726.out))) (below_size (by repeat (first | (with_reducible first | exact HB.out | apply below_alloc | apply pw_below_drewN | apply below_drew1) | exact HB.out)))); have n2_ := Aside0.mk (below_step (by repeat (first | (with_reducible first | exact HB.out | apply below_alloc | apply pw_below_drewN | apply below_drew1) | exact HB.out)) hb); clear HO726; clear HB; have HO726 := n0_; have HO734 := n1_; have HB := n2_; clear n0_ n1_ n2_; (try clear hb); (try clear hb2); (try clear hk); (try clear hi); (try clear ho0); have q40 : (a1 : Int) ≤ ((l0.length : Int) : Int) := of_decide_eq_true (by first | (with_reducible assumption) | assumption); obtain ⟨i040, hi040, _, hsz40, _⟩ := info_parts info53; have hroom40 : l0.length ≤ c0 := HC0.out; have hC40 : Kd.C k53 _ A0 l0.length l0 := HR0.out; have q040 : (0 : Int) ≤ (a1 : Int) := of_decide_eq_true (by first | (with_reducible assumption) | assumption); have hcut40 := cut_from (P := Try.prog) 39 53 .i64 Try.underlying39 hi040 4 hsz40 A0 l0.length c0 a1 q040 q40; have hr40 := Kd.C_drop (m := (a1 : Int).toNat) (c := c0) hC40 (by omega) hroom40; obtain ⟨A40, hA40⟩ : ∃ A1, A1 = (if c0 = (a1 : Int).toNat then A0 else (A0 : Option Addr).map (·.add ((a1 : Int).toNat * 4))) := ⟨_, rfl⟩; obtain ⟨c40, hc40⟩ : ∃ c1, c1 = c0 - (a1 : Int).toNat := ⟨_, rfl⟩; have hy40 : y735.length = l0.length - (a1 : Int).toNat := (by rw [Ny735.out, List.length_drop] <;> omega); rw [show (l0).drop (a1 : Int).toNat = y735 from Ny735.out.symm] at hr40; replace hr40 : Kd.C k53 _ A40 y735.length y735 := (by rw [hA40]; exact hr40); rw [← hy40, ← hA40, ← hc40] at hcut40; have HR738 := Aside0.mk hr40; have HC738 := Aside0.mk (show y735.length ≤ c40 from by rw [hy40, hc40]; exact Nat.sub_le_sub_right hroom40 _); clear hr40 hC40 hroom40 hi040 hsz40 hc40; have KY40 := Aside0.mk hy40; have KA40 := Aside0.mk hA40; clear hy40 hA40; replace q40 := eq_true q40) | ((with_reducible refine gate_callee (f := 35) rfl ?_); refine goesL_ (some 41) rfl rfl Try.func35 (by kernel_rfl) rfl #[.slice A40 y735.length c40] rfl (by (try simp only [List.map_toArray, List.map_cons, List.map_nil]); first | done | rfl | (simp only [List.length_drop, List.length_take]; rfl)) ?_; (with_reducible refine (tlv_Encode.calls kj4 _ _ y735 t739 t740 _ ?side1 ?side2 A17.out).mono ?_); (case side1 => repeat (first | exact (Kd.C_below HR738.out HB.out) | (with_reducible refine Kd.C_alloc ?_ _) | (with_reducible refine Kd.C_drewN ?_ _) | (with_reducible refine Kd.C_drew ?_))); (case side2 => exact HC738.out); rintro e w41 ⟨v741, rfl, ho0, hb⟩; refine ⟨_, rfl, ?_⟩; have n0_ := Aside0.mk (Kd.R_elder' (by (with_reducible repeat (first | apply Kd.R_alloc | apply Kd.R_drewN | apply Kd.R_drew)); exact HO726.out) (Kd.R_base ho0) hb); have n1_ := Aside0.mk (Kd.R_elder' (by (with_reducible repeat (first | apply Kd.R_alloc | apply Kd.R_drewN | apply Kd.R_drew)); exact HO734.out) (Kd.R_base ho0) hb); have n2_ := Aside0.mk (Kd.R_lower (Kd.R_new' (Kd.R_new' ho0 (Kd.R_lt (by (with_reducible repeat (first | apply Kd.R_alloc | apply Kd.R_drewN | apply Kd.R_drew)); exact HO726.out))) (Kd.R_lt (by (with_reducible repeat (first | apply Kd.R_alloc | apply Kd.R_drewN | apply Kd.R_drew)); exact HO734.out))) (below_size (by repeat (first | (with_reducible first | exact HB.out | apply below_alloc | apply pw_below_drewN | apply below_drew1) | exact HB.out)))); have n3_ := Aside0.mk (below_step (by repeat (first | (with_reducible first | exact HB.out | apply below_alloc | apply pw_below_drewN | apply below_drew1) | exact HB.out)) hb); clear HO726; clear HO734; clear HB; have HO726 := n0_; have HO734 := n1_; have HO742 := n2_; have HB := n3_; clear n0_ n1_ n2_ n3_; (try clear hb); (try clear hb2); (try clear hk); (try clear hi); (try clear ho0)))
         go_ret
         exact ⟨by first | rfl | (simp [errW_none, errW_some] <;> rfl) | (simp [*, errW_none, errW_some] <;> rfl), by repeat (first | (with_reducible first | exact HB.out | apply below_alloc | apply pw_below_drewN | apply below_drew1) | exact HB.out)⟩
      ·rw [if_neg c13] at H
       exact absurd H (by simp)
     ·rw [if_neg c12] at H
      exact absurd H (by simp)
 ·replace c4 := Bool.eq_false_iff.mpr c4
  subst c4
  have H1 : (some false) = some r := by rw [if_neg (show ¬ (false = true) by decide)] at H; exact H
  clear H
  have H := H1
  clear H1
  exact absurd ((Option.some.inj H).trans hr_.out) (by simp)
end Go.Proofs.Yteejpfemaedmkaa.X
