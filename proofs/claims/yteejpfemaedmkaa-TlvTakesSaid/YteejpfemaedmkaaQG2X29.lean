-- Written by wip/printx.py: the kit's printer with functions proved by hand. Not trusted: Lean checks it.
import Derived.Test.YteejpfemaedmkaaQG2X0
import Derived.Test.YteejpfemaedmkaaQG2X8
import Derived.Test.YteejpfemaedmkaaQG2X22
import Derived.Test.YteejpfemaedmkaaQG2X24
import Derived.Test.YteejpfemaedmkaaQG2X25
import Derived.Test.YteejpfemaedmkaaQG2X27
import Derived.Test.YteejpfemaedmkaaQG2X28
namespace Go.Proofs.Yteejpfemaedmkaa.X
open Go.RowKit Go.Proofs.YteejpfemaedmkaaW.PrintWords Go.Proofs.YteejpfemaedmkaaW.PrintLast Go.Proofs.YteejpfemaedmkaaW.PrintMore
attribute [local go_sem] max2_int min2_int max_two min_two max_three min_three max_four min_four
set_option linter.unusedVariables false
set_option linter.unusedSimpArgs false
attribute [local go_sem] vx_gtr vx_leq vx_geq
mutual
def stratumref05_Decode.l0 : Nat → List Int → List (S53) → Int → Int → Option ((List (S53)) × Int)
 | 0, _, _, _, _ => none
 | k + 1, x0, x4, x5, x6 => if x5 < (x0.length : Int) then (if 0 ≤ x5 then (if x5 ≤ (x0.length : Int) then ((stratumref02_Take.f k (x0.drop (x5 : Int).toNat)).bind fun bt668 => (if bt668.2.2 = 0 then (if (IntKind.u64.wrap (Int.tdiv bt668.1 8)) > 65535 then (stratumref05_Decode.j1 k x0 x4 x5 bt668.1 bt668.2.1 true) else (stratumref05_Decode.j1 k x0 x4 x5 bt668.1 bt668.2.1 (decide ((wrap64 (IntKind.u64.wrap (Int.tdiv bt668.1 8))) ≤ x6)))) else (stratumref05_Decode.j1 k x0 x4 x5 bt668.1 bt668.2.1 true))) else (none)) else (none)) else (some (x4, 0))
def stratumref05_Decode.j1 : Nat → List Int → List (S53) → Int → Int → Int → Bool → Option ((List (S53)) × Int)
 | 0, _, _, _, _, _, _ => none
 | k + 1, x0, x4, x5, x7, x8, x41 => if x41 = true then (some (([] : List (S53)), 3)) else (if 0 ≤ (wrap64 (x5 + x8)) then (if (wrap64 (x5 + x8)) ≤ (x0.length : Int) then ((stratumref02_Take.f k (x0.drop ((wrap64 (x5 + x8)) : Int).toNat)).bind fun bt672 => (if bt672.2.2 = 0 then (stratumref05_Decode.j2 k x0 x4 (wrap64 (x5 + x8)) x7 bt672.2.1 bt672.1 (decide ((IntKind.u64.wrap (wrap64 ((wrap64 ((x0.length : Int) - (wrap64 (x5 + x8)))) - bt672.2.1))) < bt672.1))) else (stratumref05_Decode.j2 k x0 x4 (wrap64 (x5 + x8)) x7 bt672.2.1 bt672.1 true))) else (none)) else (none))
def stratumref05_Decode.j2 : Nat → List Int → List (S53) → Int → Int → Int → Int → Bool → Option ((List (S53)) × Int)
 | 0, _, _, _, _, _, _, _ => none
 | k + 1, x0, x4, x5, x7, x8, x10, x65 => if x65 = true then (some (([] : List (S53)), 3)) else (if 0 ≤ (wrap64 (x5 + x8)) then (if (wrap64 (x5 + x8)) ≤ (wrap64 ((wrap64 (x5 + x8)) + (wrap64 (x10)))) then (if (wrap64 ((wrap64 (x5 + x8)) + (wrap64 (x10)))) ≤ (x0.length : Int) then ((stratumref05_value.f k (wrap64 (Int.tmod x7 8)) ((x0.take ((wrap64 ((wrap64 (x5 + x8)) + (wrap64 (x10)))) : Int).toNat).drop ((wrap64 (x5 + x8)) : Int).toNat)).bind fun bt676 => (if bt676.2.2.2 = true then (if x4.length < 3518437208883 then (stratumref05_Decode.l0 k x0 (x4 ++ [(⟨wrap64 (IntKind.u64.wrap (Int.tdiv x7 8)), (⟨bt676.1, bt676.2.1, bt676.2.2.1⟩ : S51)⟩ : S53)]) (wrap64 ((wrap64 (x5 + x8)) + (wrap64 (x10)))) (wrap64 (IntKind.u64.wrap (Int.tdiv x7 8)))) else (none)) else (some (([] : List (S53)), 3)))) else (none)) else (none)) else (none))
end
def stratumref05_Decode.f (k : Nat) (l0 : List Int) : Option ((List (S53)) × Int) := if (l0.length : Int) > 16777215 then (some (([] : List (S53)), 2)) else (stratumref05_Decode.l0 k l0 ([] : List (S53)) 0 0)
set_option maxHeartbeats 8000000 in
set_option maxRecDepth 100000 in
theorem stratumref05_Decode.calls (k : Nat) (A0 : Option Addr) (c0 : Nat) (l0 : List Int) (r1 : List (S53)) (r2 : Int) (w : World) (hr0 : Kd.C (Kd.int .u8) w A0 l0.length l0) (hc0 : l0.length ≤ c0) (h : stratumref05_Decode.f k l0 = some (r1, r2)) :
  Calls Try.prog 39 #[.slice A0 l0.length c0] w fun e w' => ∃ v0_ : Value, e = .returned (.tuple #[v0_, .int .i64 r2]) ∧ Kd.R k53 53 w' w.heap.size (fun _ => True) v0_ r1 ∧ Below w.heap.size w w' := by
 have hu51 := Try.underlying51
 have hu53 := Try.underlying53
 have HR0 := Aside0.mk hr0
 have HC0 := Aside0.mk hc0
 clear hr0 hc0
 have HB := Aside0.mk (Below.refl w.heap.size w)
 have H : (if (l0.length : Int) > 16777215 then (some (([] : List (S53)), 2)) else (stratumref05_Decode.l0 k l0 ([] : List (S53)) 0 0)) = some (r1, r2) := h
 clear h
 by_cases c2 : (l0.length : Int) > 16777215
 ·rw [if_pos c2] at H
  have c2b0 : decide (16777215 < (l0.length : Int)) = true := decide_eq_true c2
  have c2b1 : decide (16777215 < l0.length) = true := decide_eq_true (by omega)
  clear c2
  simp only [Option.some.injEq, Prod.mk.injEq] at H
  obtain ⟨rfl, rfl⟩ := H
  go_enter Try.func39, Try.ntmps39
  go_wp2
  go_ret2
  exact ⟨_, by first | rfl | (simp [errW_none, errW_some] <;> rfl) | (simp [*, errW_none, errW_some] <;> rfl), by first | exact Kd.R_nil _ _ _ _ _ | exact Kd.N_nil _ _ _ _ _ | exact Kd.V_nil _ _ _ _ _ | exact Kd.Q_nil _ _ _ _ _ | exact Kd.S_nil _ _ _ _ _, by repeat (first | (with_reducible first | exact HB.out | apply below_alloc | apply pw_below_drewN | apply below_drew1) | exact HB.out)⟩
 ·rw [if_neg c2] at H
  have c2b0 : decide (16777215 < (l0.length : Int)) = false := decide_eq_false c2
  have c2b1 : decide (16777215 < l0.length) = false := decide_eq_false (by omega)
  clear c2
  have H' := Aside0.mk H
  clear H
  go_enter Try.func39, Try.ntmps39
  go_wp2
  go_loopg [4, 5, 6] k (fun kq v4 v5 v6 w' => ∃ (x4_1 : List (S53)) (x5_1 : Int) (x6_1 : Int), v5 = .int .i64 x5_1 ∧ v6 = .int .i64 x6_1 ∧ Aside0 (stratumref05_Decode.l0 kq l0 x4_1 x5_1 x6_1 = some (r1, r2)) ∧ Aside0 (kq ≤ k) ∧ Aside0 (Kd.R k53 53 w' w.heap.size (fun _ => True) v4 x4_1) ∧ Aside0 (Below w.heap.size w w'))
  case atStart => exact ⟨(([] : List (S53))), (0), (0), (by first | rfl | (simp; done) | (simp [*]; done)), (by first | rfl | (simp; done) | (simp [*]; done)), H', ⟨Nat.le_refl _⟩, ⟨by first | exact Kd.R_nil _ _ _ _ _ | exact Kd.N_nil _ _ _ _ _ | exact Kd.V_nil _ _ _ _ _ | exact Kd.Q_nil _ _ _ _ _ | exact Kd.S_nil _ _ _ _ _⟩, ⟨by repeat (first | (with_reducible first | exact HB.out | apply below_alloc | apply pw_below_drewN | apply below_drew1) | exact HB.out)⟩⟩
  case round =>
   clear H'
   try clear c2
   try clear c2b0
   try clear c2b1
   try clear p2
   obtain ⟨x4_1, x5_1, x6_1, rfl, rfl, HA, HK1, HO_4, HB⟩ := hrel
   cases gk with
   | zero => exact absurd HA.out (by simp [stratumref05_Decode.l0])
   | succ k1 =>
    have H := HA.out
    clear HA
    simp only [stratumref05_Decode.l0] at H
    by_cases c3 : x5_1 < (l0.length : Int)
    ·rw [if_pos c3] at H
     have c3b0 : decide (x5_1 < (l0.length : Int)) = true := decide_eq_true c3
     clear c3
     by_cases c4 : 0 ≤ x5_1
     ·rw [if_pos c4] at H
      have c4b0 := eq_true c4
      have c4b1 : decide (0 ≤ x5_1) = true := decide_eq_true c4
      clear c4
      by_cases c5 : x5_1 ≤ (l0.length : Int)
      ·rw [if_pos c5] at H
       have c5b0 := eq_true c5
       have c5b1 : decide (x5_1 ≤ (l0.length : Int)) = true := decide_eq_true c5
       clear c5
       replace H := Option.bind_eq_some_iff.mp H
       obtain ⟨⟨t668, t669, t670⟩, A60, H⟩ := H
       replace H : (if t670 = 0 then (if (IntKind.u64.wrap (Int.tdiv t668 8)) > 65535 then (stratumref05_Decode.j1 k1 l0 x4_1 x5_1 t668 t669 true) else (stratumref05_Decode.j1 k1 l0 x4_1 x5_1 t668 t669 (decide ((wrap64 (IntKind.u64.wrap (Int.tdiv t668 8))) ≤ x6_1)))) else (stratumref05_Decode.j1 k1 l0 x4_1 x5_1 t668 t669 true)) = some (r1, r2) := H
       have A6 := Aside0.mk A60
       clear A60
       have HC7 := Aside0.mk H
       clear H
       obtain ⟨i08, hi08, _, hsz8, _⟩ := info_parts info5
       obtain ⟨A8, hcut8, hA8, hC8⟩ := print_drop_of (P := Try.prog) (Value.int .u8) 0 63 5 .i64 Try.underlying63 hi08 hsz8 A0 c0 l0 x5_1 (of_decide_eq_true (by first | (with_reducible assumption) | assumption)) (of_decide_eq_true (by first | (with_reducible assumption) | assumption)) HC0.out
       have HR667 := Aside0.mk (Kd.C_of_reads (h1 := fun _ => rfl) (hA8 _ (Kd.reads_of_C HR0.out)))
       have HC667 := Aside0.mk hC8
       clear hA8 hC8 hi08 hsz8
       go_upto_region 8 with (first | ((with_reducible refine gate_callee (f := 66) rfl ?_); refine goesL_ (some 24) rfl rfl Try.func66 (by kernel_rfl) rfl #[.slice A8 (l0.drop (x5_1 : Int).toNat).length (c0 - x5_1.toNat)] rfl (by (try simp only [List.map_toArray, List.map_cons, List.map_nil]); first | done | (rw [show (l0.drop (x5_1 : Int).toNat).length = (l0.length - x5_1.toNat) from List.length_drop] <;> rfl) | rfl | (simp only [List.length_drop, List.length_take]; rfl)) ?_; (with_reducible refine (stratumref02_Take.calls k1 _ _ (l0.drop (x5_1 : Int).toNat) t668 t669 t670 _ ?side1 ?side2 A6.out).mono ?_); (case side1 => repeat (first | exact (Kd.C_below HR667.out HB.out) | (with_reducible refine Kd.C_alloc ?_ _) | (with_reducible refine Kd.C_drewN ?_ _) | (with_reducible refine Kd.C_drew ?_))); (case side2 => exact HC667.out); rintro e w' ⟨rfl, ⟨nd, rfl⟩⟩; refine ⟨_, rfl, ?_⟩))
       (try simp only [Act.put, List.setIfInBounds_toArray, List.set_cons_zero, List.set_cons_succ])
       go_cut [41] (fun v41 wc => ∃ (kq : Nat) (x41_6 : Bool), v41 = .bool x41_6 ∧ Aside0 (stratumref05_Decode.j1 kq l0 x4_1 x5_1 t668 t669 x41_6 = some (r1, r2)) ∧ Aside0 (kq ≤ k1) ∧ Aside0 (Kd.R k53 53 wc w.heap.size (fun _ => True) u4 x4_1) ∧ Aside0 (Below w.heap.size w wc))
       case first =>
        have H := HC7.out
        clear HC7
        by_cases c9 : t670 = 0
        ·rw [if_pos c9] at H
         have c9b0 : (t670 == 0) = true := beq_iff_eq.mpr c9
         have c9b1 : (t670 != 0) = false := bne_eq_false_iff_eq.mpr c9
         clear c9
         (first | rw [c9b0] | (simp only [i64_w, i32_w]; rw [c9b0]) | skip)
         by_cases c10 : (IntKind.u64.wrap (Int.tdiv t668 8)) > 65535
         ·rw [if_pos c10] at H
          have c10b0 : decide (65535 < (IntKind.u64.wrap (Int.tdiv t668 8))) = true := decide_eq_true c10
          clear c10
          have H' := Aside0.mk H
          clear H
          go_wp2
          go_meet
          case rel => exact ⟨_, (true), (by first | rfl | (simp; done) | (simp [*]; done)), H', ⟨by have := HK1.out; first | omega | exact Nat.le_refl _⟩, ⟨by (with_reducible repeat (first | apply Kd.R_alloc | apply Kd.R_drewN | apply Kd.R_drew)); exact HO_4.out⟩, ⟨by repeat (first | (with_reducible first | exact HB.out | apply below_alloc | apply pw_below_drewN | apply below_drew1) | exact HB.out)⟩⟩
         ·rw [if_neg c10] at H
          have c10b0 : decide (65535 < (IntKind.u64.wrap (Int.tdiv t668 8))) = false := decide_eq_false c10
          clear c10
          have H' := Aside0.mk H
          clear H
          go_wp2
          go_meet
          case rel => exact ⟨_, (decide ((wrap64 (IntKind.u64.wrap (Int.tdiv t668 8))) ≤ x6_1)), (by first | rfl | (simp; done) | (simp [*]; done)), H', ⟨by have := HK1.out; first | omega | exact Nat.le_refl _⟩, ⟨by (with_reducible repeat (first | apply Kd.R_alloc | apply Kd.R_drewN | apply Kd.R_drew)); exact HO_4.out⟩, ⟨by repeat (first | (with_reducible first | exact HB.out | apply below_alloc | apply pw_below_drewN | apply below_drew1) | exact HB.out)⟩⟩
        ·rw [if_neg c9] at H
         have c9b0 : (t670 == 0) = false := beq_eq_false_iff_ne.mpr c9
         have c9b1 : (t670 != 0) = true := bne_iff_ne.mpr c9
         (first | rw [c9b0] | (simp only [i64_w, i32_w]; rw [c9b0]) | skip)
         have H' := Aside0.mk H
         clear H
         go_wp2
         go_meet
         case rel => exact ⟨_, (true), (by first | rfl | (simp; done) | (simp [*]; done)), H', ⟨by have := HK1.out; first | omega | exact Nat.le_refl _⟩, ⟨by (with_reducible repeat (first | apply Kd.R_alloc | apply Kd.R_drewN | apply Kd.R_drew)); exact HO_4.out⟩, ⟨by repeat (first | (with_reducible first | exact HB.out | apply below_alloc | apply pw_below_drewN | apply below_drew1) | exact HB.out)⟩⟩
       case rest =>
        clear HC7
        try clear c1
        try clear c2
        try clear c2b0
        try clear c2b1
        try clear p2
        try clear c3
        try clear c3b0
        try clear c4
        try clear c4b0
        try clear c4b1
        try clear c5
        try clear c5b0
        try clear c5b1
        try clear c6
        try clear p6
        try clear c9
        try clear c9b0
        try clear c9b1
        try clear c10
        try clear c10b0
        try clear p2
        obtain ⟨kq, x41_6, rfl, HA, HJ6, HO_4, HB⟩ := hcut
        cases kq with
        | zero => exact absurd HA.out (by simp [stratumref05_Decode.j1])
        | succ kj6 =>
         have H := HA.out
         clear HA
         simp only [stratumref05_Decode.j1] at H
         by_cases c11 : x41_6 = true
         ·subst c11
          have H1 : (some (([] : List (S53)), 3)) = some (r1, r2) := by rw [if_pos rfl] at H; exact H
          clear H
          have H := H1
          clear H1
          simp only [Option.some.injEq, Prod.mk.injEq] at H
          obtain ⟨rfl, rfl⟩ := H
          go_wp2
          go_ret2
          exact ⟨_, by first | rfl | (simp [errW_none, errW_some] <;> rfl) | (simp [*, errW_none, errW_some] <;> rfl), by first | exact Kd.R_nil _ _ _ _ _ | exact Kd.N_nil _ _ _ _ _ | exact Kd.V_nil _ _ _ _ _ | exact Kd.Q_nil _ _ _ _ _ | exact Kd.S_nil _ _ _ _ _, by repeat (first | (with_reducible first | exact HB.out | apply below_alloc | apply pw_below_drewN | apply below_drew1) | exact HB.out)⟩
         ·replace c11 := Bool.eq_false_iff.mpr c11
          subst c11
          have H1 : (if 0 ≤ (wrap64 (x5_1 + t669)) then (if (wrap64 (x5_1 + t669)) ≤ (l0.length : Int) then ((stratumref02_Take.f kj6 (l0.drop ((wrap64 (x5_1 + t669)) : Int).toNat)).bind fun bt672 => (if bt672.2.2 = 0 then (stratumref05_Decode.j2 kj6 l0 x4_1 (wrap64 (x5_1 + t669)) t668 bt672.2.1 bt672.1 (decide ((IntKind.u64.wrap (wrap64 ((wrap64 ((l0.length : Int) - (wrap64 (x5_1 + t669)))) - bt672.2.1))) < bt672.1))) else (stratumref05_Decode.j2 kj6 l0 x4_1 (wrap64 (x5_1 + t669)) t668 bt672.2.1 bt672.1 true))) else (none)) else (none)) = some (r1, r2) := by rw [if_neg (show ¬ (false = true) by decide)] at H; exact H
          clear H
          have H := H1
          clear H1
          obtain ⟨ji12, hji12⟩ : ∃ j_ : Int, (wrap64 (x5_1 + t669)) = j_ := ⟨_, rfl⟩
          replace H : (if 0 ≤ (ji12) then (if (ji12) ≤ (l0.length : Int) then ((stratumref02_Take.f kj6 (l0.drop ((ji12) : Int).toNat)).bind fun bt672 => (if bt672.2.2 = 0 then (stratumref05_Decode.j2 kj6 l0 x4_1 ji12 t668 bt672.2.1 bt672.1 (decide ((IntKind.u64.wrap (wrap64 ((wrap64 ((l0.length : Int) - (ji12))) - bt672.2.1))) < bt672.1))) else (stratumref05_Decode.j2 kj6 l0 x4_1 ji12 t668 bt672.2.1 bt672.1 true))) else (none)) else (none)) = some (r1, r2) := by first | (rw [hji12] at H; exact H) | (simp only [hji12] at H ⊢; exact H)
          have hji12w : (IntKind.i64.wrap (x5_1 + t669)) = ji12 := (i64_w _).trans hji12
          by_cases c13 : 0 ≤ (ji12)
          ·rw [if_pos c13] at H
           have c13b0 := eq_true c13
           have c13b1 : decide (0 ≤ (ji12)) = true := decide_eq_true c13
           clear c13
           by_cases c14 : (ji12) ≤ (l0.length : Int)
           ·rw [if_pos c14] at H
            have c14b0 := eq_true c14
            have c14b1 : decide ((ji12) ≤ (l0.length : Int)) = true := decide_eq_true c14
            clear c14
            replace H := Option.bind_eq_some_iff.mp H
            obtain ⟨⟨t672, t673, t674⟩, A150, H⟩ := H
            replace H : (if t674 = 0 then (stratumref05_Decode.j2 kj6 l0 x4_1 ji12 t668 t673 t672 (decide ((IntKind.u64.wrap (wrap64 ((wrap64 ((l0.length : Int) - (ji12))) - t673))) < t672))) else (stratumref05_Decode.j2 kj6 l0 x4_1 ji12 t668 t673 t672 true)) = some (r1, r2) := H
            have A15 := Aside0.mk A150
            clear A150
            have HC16 := Aside0.mk H
            clear H
            obtain ⟨i017, hi017, _, hsz17, _⟩ := info_parts info5
            obtain ⟨A17, hcut17, hA17, hC17⟩ := print_drop_of (P := Try.prog) (Value.int .u8) 0 63 5 .i64 Try.underlying63 hi017 hsz17 A0 c0 l0 (ji12) (of_decide_eq_true (by first | (with_reducible assumption) | assumption)) (of_decide_eq_true (by first | (with_reducible assumption) | assumption)) HC0.out
            have HR671 := Aside0.mk (Kd.C_of_reads (h1 := fun _ => rfl) (hA17 _ (Kd.reads_of_C HR0.out)))
            have HC671 := Aside0.mk hC17
            clear hA17 hC17 hi017 hsz17
            go_upto_region 12 with (first | ((with_reducible refine gate_callee (f := 66) rfl ?_); refine goesL_ (some 49) rfl rfl Try.func66 (by kernel_rfl) rfl #[.slice A17 (l0.drop ((ji12) : Int).toNat).length (c0 - (ji12).toNat)] rfl (by (try simp only [List.map_toArray, List.map_cons, List.map_nil]); first | done | (rw [show (l0.drop ((ji12) : Int).toNat).length = (l0.length - (ji12).toNat) from List.length_drop] <;> rfl) | (simp only [hji12]; rfl) | rfl | (simp only [List.length_drop, List.length_take]; rfl)) ?_; (with_reducible refine (stratumref02_Take.calls kj6 _ _ (l0.drop ((ji12) : Int).toNat) t672 t673 t674 _ ?side1 ?side2 A15.out).mono ?_); (case side1 => repeat (first | exact (Kd.C_below HR671.out HB.out) | (with_reducible refine Kd.C_alloc ?_ _) | (with_reducible refine Kd.C_drewN ?_ _) | (with_reducible refine Kd.C_drew ?_))); (case side2 => exact HC671.out); rintro e w' ⟨rfl, ⟨nd, rfl⟩⟩; refine ⟨_, rfl, ?_⟩))
            (try simp only [Act.put, List.setIfInBounds_toArray, List.set_cons_zero, List.set_cons_succ])
            go_cut [65] (fun v65 wc => ∃ (kq : Nat) (x65_15 : Bool), v65 = .bool x65_15 ∧ Aside0 (stratumref05_Decode.j2 kq l0 x4_1 ji12 t668 t673 t672 x65_15 = some (r1, r2)) ∧ Aside0 (kq ≤ kj6) ∧ Aside0 (Kd.R k53 53 wc w.heap.size (fun _ => True) u4 x4_1) ∧ Aside0 (Below w.heap.size w wc))
            case first =>
             have H := HC16.out
             clear HC16
             by_cases c18 : t674 = 0
             ·rw [if_pos c18] at H
              have c18b0 : (t674 == 0) = true := beq_iff_eq.mpr c18
              have c18b1 : (t674 != 0) = false := bne_eq_false_iff_eq.mpr c18
              clear c18
              (first | rw [c18b0] | (simp only [i64_w, i32_w]; rw [c18b0]) | skip)
              have H' := Aside0.mk H
              clear H
              go_wp2
              go_meet
              case rel => exact ⟨_, (decide ((IntKind.u64.wrap (wrap64 ((wrap64 ((l0.length : Int) - (ji12))) - t673))) < t672)), (by first | rfl | (simp; done) | (simp only [← hji12] <;> (first | rfl | simp)) | (simp [*]; done)), H', ⟨by have := HK1.out; have := HJ6.out; first | omega | exact Nat.le_refl _⟩, ⟨by (with_reducible repeat (first | apply Kd.R_alloc | apply Kd.R_drewN | apply Kd.R_drew)); exact HO_4.out⟩, ⟨by repeat (first | (with_reducible first | exact HB.out | apply below_alloc | apply pw_below_drewN | apply below_drew1) | exact HB.out)⟩⟩
             ·rw [if_neg c18] at H
              have c18b0 : (t674 == 0) = false := beq_eq_false_iff_ne.mpr c18
              have c18b1 : (t674 != 0) = true := bne_iff_ne.mpr c18
              (first | rw [c18b0] | (simp only [i64_w, i32_w]; rw [c18b0]) | skip)
              have H' := Aside0.mk H
              clear H
              go_wp2
              go_meet
              case rel => exact ⟨_, (true), (by first | rfl | (simp; done) | (simp [*]; done)), H', ⟨by have := HK1.out; have := HJ6.out; first | omega | exact Nat.le_refl _⟩, ⟨by (with_reducible repeat (first | apply Kd.R_alloc | apply Kd.R_drewN | apply Kd.R_drew)); exact HO_4.out⟩, ⟨by repeat (first | (with_reducible first | exact HB.out | apply below_alloc | apply pw_below_drewN | apply below_drew1) | exact HB.out)⟩⟩
            case rest =>
             clear HC16
             try clear c1
             try clear c2
             try clear c2b0
             try clear c2b1
             try clear p2
             try clear c3
             try clear c3b0
             try clear c4
             try clear c4b0
             try clear c4b1
             try clear c5
             try clear c5b0
             try clear c5b1
             try clear c6
             try clear p6
             try clear c9
             try clear c9b0
             try clear c9b1
             try clear c10
             try clear c10b0
             try clear c11
             try clear c13
             try clear c13b0
             try clear c13b1
             try clear c14
             try clear c14b0
             try clear c14b1
             try clear c18
             try clear c18b0
             try clear c18b1
             try clear p2
             try clear p6
             obtain ⟨kq, x65_15, rfl, HA, HJ15, HO_4, HB⟩ := hcut
             cases kq with
             | zero => exact absurd HA.out (by simp [stratumref05_Decode.j2])
             | succ kj15 =>
              have H := HA.out
              clear HA
              simp only [stratumref05_Decode.j2] at H
              by_cases c19 : x65_15 = true
              ·subst c19
               have H1 : (some (([] : List (S53)), 3)) = some (r1, r2) := by rw [if_pos rfl] at H; exact H
               clear H
               have H := H1
               clear H1
               simp only [Option.some.injEq, Prod.mk.injEq] at H
               obtain ⟨rfl, rfl⟩ := H
               go_wp2
               go_ret2
               exact ⟨_, by first | rfl | (simp [errW_none, errW_some] <;> rfl) | (simp only [← hji12]; first | rfl | (simp [errW_none, errW_some] <;> rfl)) | (simp [*, errW_none, errW_some] <;> rfl), by first | exact Kd.R_nil _ _ _ _ _ | exact Kd.N_nil _ _ _ _ _ | exact Kd.V_nil _ _ _ _ _ | exact Kd.Q_nil _ _ _ _ _ | exact Kd.S_nil _ _ _ _ _, by repeat (first | (with_reducible first | exact HB.out | apply below_alloc | apply pw_below_drewN | apply below_drew1) | exact HB.out)⟩
              ·replace c19 := Bool.eq_false_iff.mpr c19
               subst c19
               have H1 : (if 0 ≤ (wrap64 (ji12 + t673)) then (if (wrap64 (ji12 + t673)) ≤ (wrap64 ((wrap64 (ji12 + t673)) + (wrap64 (t672)))) then (if (wrap64 ((wrap64 (ji12 + t673)) + (wrap64 (t672)))) ≤ (l0.length : Int) then ((stratumref05_value.f kj15 (wrap64 (Int.tmod t668 8)) ((l0.take ((wrap64 ((wrap64 (ji12 + t673)) + (wrap64 (t672)))) : Int).toNat).drop ((wrap64 (ji12 + t673)) : Int).toNat)).bind fun bt676 => (if bt676.2.2.2 = true then (if x4_1.length < 3518437208883 then (stratumref05_Decode.l0 kj15 l0 (x4_1 ++ [(⟨wrap64 (IntKind.u64.wrap (Int.tdiv t668 8)), (⟨bt676.1, bt676.2.1, bt676.2.2.1⟩ : S51)⟩ : S53)]) (wrap64 ((wrap64 (ji12 + t673)) + (wrap64 (t672)))) (wrap64 (IntKind.u64.wrap (Int.tdiv t668 8)))) else (none)) else (some (([] : List (S53)), 3)))) else (none)) else (none)) else (none)) = some (r1, r2) := by rw [if_neg (show ¬ (false = true) by decide)] at H; exact H
               clear H
               have H := H1
               clear H1
               obtain ⟨ji20, hji20⟩ : ∃ j_ : Int, (wrap64 (ji12 + t673)) = j_ := ⟨_, rfl⟩
               replace H : (if 0 ≤ (ji20) then (if (ji20) ≤ (wrap64 ((ji20) + (wrap64 (t672)))) then (if (wrap64 ((ji20) + (wrap64 (t672)))) ≤ (l0.length : Int) then ((stratumref05_value.f kj15 (wrap64 (Int.tmod t668 8)) ((l0.take ((wrap64 ((ji20) + (wrap64 (t672)))) : Int).toNat).drop ((ji20) : Int).toNat)).bind fun bt676 => (if bt676.2.2.2 = true then (if x4_1.length < 3518437208883 then (stratumref05_Decode.l0 kj15 l0 (x4_1 ++ [(⟨wrap64 (IntKind.u64.wrap (Int.tdiv t668 8)), (⟨bt676.1, bt676.2.1, bt676.2.2.1⟩ : S51)⟩ : S53)]) (wrap64 ((ji20) + (wrap64 (t672)))) (wrap64 (IntKind.u64.wrap (Int.tdiv t668 8)))) else (none)) else (some (([] : List (S53)), 3)))) else (none)) else (none)) else (none)) = some (r1, r2) := by first | (rw [hji20] at H; exact H) | (simp only [hji20] at H ⊢; exact H)
               have hji20w : (IntKind.i64.wrap (ji12 + t673)) = ji20 := (i64_w _).trans hji20
               by_cases c21 : 0 ≤ (ji20)
               ·rw [if_pos c21] at H
                have c21b0 := eq_true c21
                have c21b1 : decide (0 ≤ (ji20)) = true := decide_eq_true c21
                clear c21
                by_cases c22 : (ji20) ≤ (wrap64 ((ji20) + (wrap64 (t672))))
                ·rw [if_pos c22] at H
                 have c22b0 := eq_true c22
                 have c22b1 : decide ((ji20) ≤ (wrap64 ((ji20) + (wrap64 (t672))))) = true := decide_eq_true c22
                 by_cases c23 : (wrap64 ((ji20) + (wrap64 (t672)))) ≤ (l0.length : Int)
                 ·rw [if_pos c23] at H
                  have c23b0 := eq_true c23
                  have c23b1 : decide ((wrap64 ((ji20) + (wrap64 (t672)))) ≤ (l0.length : Int)) = true := decide_eq_true c23
                  replace H := Option.bind_eq_some_iff.mp H
                  obtain ⟨⟨t676, t677, t678, t679⟩, A240, H⟩ := H
                  replace H : (if t679 = true then (if x4_1.length < 3518437208883 then (stratumref05_Decode.l0 kj15 l0 (x4_1 ++ [(⟨wrap64 (IntKind.u64.wrap (Int.tdiv t668 8)), (⟨t676, t677, t678⟩ : S51)⟩ : S53)]) (wrap64 ((ji20) + (wrap64 (t672)))) (wrap64 (IntKind.u64.wrap (Int.tdiv t668 8)))) else (none)) else (some (([] : List (S53)), 3))) = some (r1, r2) := H
                  have A24 := Aside0.mk A240
                  clear A240
                  by_cases c25 : t679 = true
                  ·subst c25
                   have H1 : (if x4_1.length < 3518437208883 then (stratumref05_Decode.l0 kj15 l0 (x4_1 ++ [(⟨wrap64 (IntKind.u64.wrap (Int.tdiv t668 8)), (⟨t676, t677, t678⟩ : S51)⟩ : S53)]) (wrap64 ((ji20) + (wrap64 (t672)))) (wrap64 (IntKind.u64.wrap (Int.tdiv t668 8)))) else (none)) = some (r1, r2) := by rw [if_pos rfl] at H; exact H
                   clear H
                   have H := H1
                   clear H1
                   by_cases c26 : x4_1.length < 3518437208883
                   ·rw [if_pos c26] at H
                    have LMc26 := Aside0.mk c26
                    clear c26
                    obtain ⟨y681, hy681⟩ : ∃ y_ : List (S53), y_ = (x4_1 ++ [(⟨wrap64 (IntKind.u64.wrap (Int.tdiv t668 8)), (⟨t676, t677, t678⟩ : S51)⟩ : S53)]) := ⟨_, rfl⟩
                    replace H : (stratumref05_Decode.l0 kj15 l0 y681 (wrap64 ((ji20) + (wrap64 (t672)))) (wrap64 (IntKind.u64.wrap (Int.tdiv t668 8)))) = some (r1, r2) := by first | (rw [hy681]; with_reducible exact H) | (have H2_ := (Option.bind_some _ _).symm.trans H; rw [hy681]; with_reducible exact H2_) | (have H2_ := (Option.bind_some _ _).symm.trans H; with_reducible exact H2_) | with_reducible exact H | (rw [hy681]; exact H) | exact H
                    have Ny681 := Aside0.mk hy681
                    clear hy681
                    have H' := Aside0.mk H
                    clear H
                    obtain ⟨i027, hi027, _, hsz27, _⟩ := info_parts info5
                    obtain ⟨A27, hcut27, hA27, hC27⟩ := print_mid_of (P := Try.prog) (Value.int .u8) 0 63 5 .i64 .i64 Try.underlying63 hi027 hsz27 A0 c0 l0 (ji20) (wrap64 ((ji20) + (wrap64 (t672)))) (of_decide_eq_true (by first | (with_reducible assumption) | assumption)) (by first | omega | exact of_decide_eq_true (by first | (with_reducible assumption) | assumption)) (of_decide_eq_true (by first | (with_reducible assumption) | assumption)) HC0.out
                    have HR675 := Aside0.mk (Kd.C_of_reads (h1 := fun _ => rfl) (hA27 _ (Kd.reads_of_C HR0.out)))
                    have HC675 := Aside0.mk hC27
                    clear hA27 hC27 hi027 hsz27
                    go_wp2_with (first | ((with_reducible refine gate_callee (f := 67) rfl ?_); refine goesL_ (some 80) rfl rfl Try.func67 (by kernel_rfl) rfl #[.int .i64 (wrap64 (Int.tmod t668 8)), .slice A27 ((l0.take ((wrap64 ((ji20) + (wrap64 (t672)))) : Int).toNat).drop ((ji20) : Int).toNat).length (c0 - (ji20).toNat)] rfl (by (try simp only [List.map_toArray, List.map_cons, List.map_nil]); first | done | (rw [show ((l0.take ((wrap64 ((ji20) + (wrap64 (t672)))) : Int).toNat).drop ((ji20) : Int).toNat).length = ((wrap64 ((ji20) + (wrap64 (t672)))).toNat - (ji20).toNat) from (by rw [List.length_drop, List.length_take]; have h_ : ((wrap64 ((ji20) + (wrap64 (t672)))) : Int) ≤ (l0.length : Int) := of_decide_eq_true (by first | (with_reducible assumption) | assumption); omega)] <;> rfl) | (simp only [hji20]; rfl) | rfl | (simp only [List.length_drop, List.length_take]; rfl)) ?_; (with_reducible refine (stratumref05_value.calls kj15 (wrap64 (Int.tmod t668 8)) _ _ ((l0.take ((wrap64 ((ji20) + (wrap64 (t672)))) : Int).toNat).drop ((ji20) : Int).toNat) t676 t677 t678 true _ ?side1 ?side2 A24.out).mono ?_); (case side1 => repeat (first | exact (Kd.C_below HR675.out HB.out) | (with_reducible refine Kd.C_alloc ?_ _) | (with_reducible refine Kd.C_drewN ?_ _) | (with_reducible refine Kd.C_drew ?_))); (case side2 => exact HC675.out); rintro e w28 ⟨rfl, hb⟩; refine ⟨_, rfl, ?_⟩; have n0_ := Aside0.mk (Kd.R_below (by (with_reducible repeat (first | apply Kd.R_alloc | apply Kd.R_drewN | apply Kd.R_drew)); exact HO_4.out) hb); have n1_ := Aside0.mk (below_step (by repeat (first | (with_reducible first | exact HB.out | apply below_alloc | apply pw_below_drewN | apply below_drew1) | exact HB.out)) hb); clear HO_4; clear HB; have HO_4 := n0_; have HB := n1_; clear n0_ n1_; (try clear hb); (try clear hb2); (try clear hk); (try clear hi)) | ((with_reducible refine gate_dst (N := 11) rfl ?_); (try (refine gate_guard (by rfl) ?_; dsimp only)); refine box_event ?hg (N := 11) ?hd (cs := #[.int .i64 0, .int .u64 0, .string (⟨#[]⟩ : ByteArray)]) (t := 51) ?hr ?_; (case hd => rfl); (case hg => rfl); (case hr => first | (go_simp; done) | (go_simp; rfl)); intro gb680 hg w29 hbox hb; have n0_ := Aside0.mk (Kd.R_below (by (with_reducible repeat (first | apply Kd.R_alloc | apply Kd.R_drewN | apply Kd.R_drew)); exact HO_4.out) hb); have n1_ := Aside0.mk (below_step (by repeat (first | (with_reducible first | exact HB.out | apply below_alloc | apply pw_below_drewN | apply below_drew1) | exact HB.out)) hb); have n2_ := Aside0.mk (hbox); have n3_ := Aside0.mk ((by rw [hg]; exact (below_size (by repeat (first | (with_reducible first | exact HB.out | apply below_alloc | apply pw_below_drewN | apply below_drew1) | exact HB.out))) : w.heap.size ≤ gb680)); have n4_ := Aside0.mk ((by rw [hg]; exact (below_size (by repeat (first | (with_reducible first | exact HB.out | apply below_alloc | apply pw_below_drewN | apply below_drew1) | exact HB.out))) : w.heap.size ≤ gb680)); clear HO_4; clear HB; have HO_4 := n0_; have HB := n1_; have BK680 := n2_; have GW680 := n3_; have GE680 := n4_; clear n0_ n1_ n2_ n3_ n4_; clear hb hbox hg; have hcz30_0 : w29.cell? ⟨gb680, 0, none⟩ = some (.int .i64 0) := (blk_cell BK680.out 0).trans rfl; have hcz30_1 : w29.cell? ⟨gb680, 1, none⟩ = some (.int .u64 0) := (blk_cell BK680.out 1).trans rfl; have hcz30_2 : w29.cell? ⟨gb680, 2, none⟩ = some (.string (⟨#[]⟩ : ByteArray)) := (blk_cell BK680.out 2).trans rfl; have hfz30_0 := blk_frozen BK680.out 0; have hfz30_1 := blk_frozen BK680.out 1; have hfz30_2 := blk_frozen BK680.out 2) | ((with_reducible refine gate_builtin (b := .append) (xs := #[.tmp 92, .tmp 96]) rfl ?_); (try (refine gate_guard (by rfl) ?_; dsimp only)); at_builtin; refine Kd.R_append k53 (w0 := w) w.heap.size rfl (.tmp 92) (.tmp 96) 39 53 (.agg #[(.int .i64 0), (.int .i64 0), (.int .u64 0), (.string ⟨#[]⟩)]) 40 rfl Try.underlying39 info53 rfl (by decide) (by omega) u4 x4_1 (⟨wrap64 (IntKind.u64.wrap (Int.tdiv t668 8)), (⟨t676, t677, t678⟩ : S51)⟩ : S53) [.int .i64 (wrap64 (IntKind.u64.wrap (Int.tdiv t668 8))), .int .i64 t676, .int .u64 t677, .string t678] (fun _ => True) (fun _ => False) rfl (by first | (go_simp; done) | (go_simp; rfl)) ?aP (fun _ hk => hk.elim) ?aF ?aO ?aB ?aS ?aL ?_; (case aP => exact k53_mkM _ _ _ (⟨wrap64 (IntKind.u64.wrap (Int.tdiv t668 8)), (⟨t676, t677, t678⟩ : S51)⟩ : S53)); (case aB => exact (by repeat (first | (with_reducible first | exact HB.out | apply below_alloc | apply pw_below_drewN | apply below_drew1 | refine below_set ?_ GE680.out) | exact HB.out))); (case aF => exact (fun _ _ => trivial)); (case aO => exact (by (with_reducible repeat (first | apply Kd.R_alloc | apply Kd.R_drewN | apply Kd.R_drew)); exact Kd.R_mono (Kd.R_far (p := ⟨gb680, 2, none⟩) (Kd.R_far (p := ⟨gb680, 1, none⟩) (Kd.R_far (p := ⟨gb680, 0, none⟩) (Kd.R_types HO_4.out BK680.out (by decide)) (fun _ hk => hk.2) (.int .i64 t676)) (fun _ hk => hk.2) (.int .u64 t677)) (fun _ hk => hk.2) (.string t678)) (fun _ hk => trivial))); (case aS => exact (below_size (by repeat (first | (with_reducible first | exact HB.out | apply below_alloc | apply pw_below_drewN | apply below_drew1 | refine below_set ?_ GE680.out) | exact HB.out)))); (case aL => have := LMc26.out; omega); intro v682 w31 ho hb hg hat; rw [← Ny681.out] at ho; have n0_ := Aside0.mk (blk_grown (g := gb680) (o := .cells #[.int .i64 t676, .int .u64 t677, .string t678] 51 (0, 0)) (by (with_reducible repeat (first | refine blk_drewN ?_ _ | refine blk_drew ?_ | refine blk_alloc ?_ _)); refine blk_put (cs := #[.int .i64 t676, .int .u64 t677, .string (⟨#[]⟩ : ByteArray)]) ?_ 2 _ rfl; (with_reducible repeat (first | refine blk_drewN ?_ _ | refine blk_drew ?_ | refine blk_alloc ?_ _)); refine blk_put (cs := #[.int .i64 t676, .int .u64 0, .string (⟨#[]⟩ : ByteArray)]) ?_ 1 _ rfl; (with_reducible repeat (first | refine blk_drewN ?_ _ | refine blk_drew ?_ | refine blk_alloc ?_ _)); refine blk_put (cs := #[.int .i64 0, .int .u64 0, .string (⟨#[]⟩ : ByteArray)]) ?_ 0 _ rfl; (with_reducible repeat (first | refine blk_drewN ?_ _ | refine blk_drew ?_ | refine blk_alloc ?_ _)); exact BK680.out) hg (Kd.R_ne HO_4.out BK680.out (by decide))); have n1_ := Aside0.mk (hb); have n2_ := Aside0.mk (ho); clear BK680; clear HB; clear HO_4; have BK680 := n0_; have HB := n1_; have HO683 := n2_; clear n0_ n1_ n2_; clear ho hb hg hat))
                    go_roundg kj15
                    case measure => have := HK1.out; have := HJ6.out; have := HJ15.out; omega
                    case rel => exact ⟨(y681), (wrap64 ((ji20) + (wrap64 (t672)))), (wrap64 (IntKind.u64.wrap (Int.tdiv t668 8))), (by first | rfl | (simp; done) | (simp only [← hji20] <;> (first | rfl | simp)) | (simp [*]; done)), (by first | rfl | (simp; done) | (simp [*]; done)), H', ⟨by have := HK1.out; have := HJ6.out; have := HJ15.out; omega⟩, ⟨by (with_reducible repeat (first | apply Kd.R_alloc | apply Kd.R_drewN | apply Kd.R_drew)); exact HO683.out⟩, ⟨by repeat (first | (with_reducible first | exact HB.out | apply below_alloc | apply pw_below_drewN | apply below_drew1 | refine below_set ?_ GE680.out) | exact HB.out)⟩⟩
                   ·rw [if_neg c26] at H
                    exact absurd H (by simp)
                  ·replace c25 := Bool.eq_false_iff.mpr c25
                   subst c25
                   have H1 : (some (([] : List (S53)), 3)) = some (r1, r2) := by rw [if_neg (show ¬ (false = true) by decide)] at H; exact H
                   clear H
                   have H := H1
                   clear H1
                   simp only [Option.some.injEq, Prod.mk.injEq] at H
                   obtain ⟨rfl, rfl⟩ := H
                   obtain ⟨i032, hi032, _, hsz32, _⟩ := info_parts info5
                   obtain ⟨A32, hcut32, hA32, hC32⟩ := print_mid_of (P := Try.prog) (Value.int .u8) 0 63 5 .i64 .i64 Try.underlying63 hi032 hsz32 A0 c0 l0 (ji20) (wrap64 ((ji20) + (wrap64 (t672)))) (of_decide_eq_true (by first | (with_reducible assumption) | assumption)) (by first | omega | exact of_decide_eq_true (by first | (with_reducible assumption) | assumption)) (of_decide_eq_true (by first | (with_reducible assumption) | assumption)) HC0.out
                   have HR675 := Aside0.mk (Kd.C_of_reads (h1 := fun _ => rfl) (hA32 _ (Kd.reads_of_C HR0.out)))
                   have HC675 := Aside0.mk hC32
                   clear hA32 hC32 hi032 hsz32
                   go_wp2_with (first | ((with_reducible refine gate_callee (f := 67) rfl ?_); refine goesL_ (some 80) rfl rfl Try.func67 (by kernel_rfl) rfl #[.int .i64 (wrap64 (Int.tmod t668 8)), .slice A32 ((l0.take ((wrap64 ((ji20) + (wrap64 (t672)))) : Int).toNat).drop ((ji20) : Int).toNat).length (c0 - (ji20).toNat)] rfl (by (try simp only [List.map_toArray, List.map_cons, List.map_nil]); first | done | (rw [show ((l0.take ((wrap64 ((ji20) + (wrap64 (t672)))) : Int).toNat).drop ((ji20) : Int).toNat).length = ((wrap64 ((ji20) + (wrap64 (t672)))).toNat - (ji20).toNat) from (by rw [List.length_drop, List.length_take]; have h_ : ((wrap64 ((ji20) + (wrap64 (t672)))) : Int) ≤ (l0.length : Int) := of_decide_eq_true (by first | (with_reducible assumption) | assumption); omega)] <;> rfl) | (simp only [hji20]; rfl) | rfl | (simp only [List.length_drop, List.length_take]; rfl)) ?_; (with_reducible refine (stratumref05_value.calls kj15 (wrap64 (Int.tmod t668 8)) _ _ ((l0.take ((wrap64 ((ji20) + (wrap64 (t672)))) : Int).toNat).drop ((ji20) : Int).toNat) t676 t677 t678 false _ ?side1 ?side2 A24.out).mono ?_); (case side1 => repeat (first | exact (Kd.C_below HR675.out HB.out) | (with_reducible refine Kd.C_alloc ?_ _) | (with_reducible refine Kd.C_drewN ?_ _) | (with_reducible refine Kd.C_drew ?_))); (case side2 => exact HC675.out); rintro e w33 ⟨rfl, hb⟩; refine ⟨_, rfl, ?_⟩; have n0_ := Aside0.mk (Kd.R_below (by (with_reducible repeat (first | apply Kd.R_alloc | apply Kd.R_drewN | apply Kd.R_drew)); exact HO_4.out) hb); have n1_ := Aside0.mk (below_step (by repeat (first | (with_reducible first | exact HB.out | apply below_alloc | apply pw_below_drewN | apply below_drew1) | exact HB.out)) hb); clear HO_4; clear HB; have HO_4 := n0_; have HB := n1_; clear n0_ n1_; (try clear hb); (try clear hb2); (try clear hk); (try clear hi)) | ((with_reducible refine gate_dst (N := 11) rfl ?_); (try (refine gate_guard (by rfl) ?_; dsimp only)); refine box_event ?hg (N := 11) ?hd (cs := #[.int .i64 0, .int .u64 0, .string (⟨#[]⟩ : ByteArray)]) (t := 51) ?hr ?_; (case hd => rfl); (case hg => rfl); (case hr => first | (go_simp; done) | (go_simp; rfl)); intro gb680 hg w34 hbox hb; have n0_ := Aside0.mk (Kd.R_below (by (with_reducible repeat (first | apply Kd.R_alloc | apply Kd.R_drewN | apply Kd.R_drew)); exact HO_4.out) hb); have n1_ := Aside0.mk (below_step (by repeat (first | (with_reducible first | exact HB.out | apply below_alloc | apply pw_below_drewN | apply below_drew1) | exact HB.out)) hb); have n2_ := Aside0.mk (hbox); have n3_ := Aside0.mk ((by rw [hg]; exact (below_size (by repeat (first | (with_reducible first | exact HB.out | apply below_alloc | apply pw_below_drewN | apply below_drew1) | exact HB.out))) : w.heap.size ≤ gb680)); have n4_ := Aside0.mk ((by rw [hg]; exact (below_size (by repeat (first | (with_reducible first | exact HB.out | apply below_alloc | apply pw_below_drewN | apply below_drew1) | exact HB.out))) : w.heap.size ≤ gb680)); clear HO_4; clear HB; have HO_4 := n0_; have HB := n1_; have BK680 := n2_; have GW680 := n3_; have GE680 := n4_; clear n0_ n1_ n2_ n3_ n4_; clear hb hbox hg; have hcz35_0 : w34.cell? ⟨gb680, 0, none⟩ = some (.int .i64 0) := (blk_cell BK680.out 0).trans rfl; have hcz35_1 : w34.cell? ⟨gb680, 1, none⟩ = some (.int .u64 0) := (blk_cell BK680.out 1).trans rfl; have hcz35_2 : w34.cell? ⟨gb680, 2, none⟩ = some (.string (⟨#[]⟩ : ByteArray)) := (blk_cell BK680.out 2).trans rfl; have hfz35_0 := blk_frozen BK680.out 0; have hfz35_1 := blk_frozen BK680.out 1; have hfz35_2 := blk_frozen BK680.out 2))
                   go_ret2
                   exact ⟨_, by first | rfl | (simp [errW_none, errW_some] <;> rfl) | (simp only [← hji12, ← hji20]; first | rfl | (simp [errW_none, errW_some] <;> rfl)) | (simp [*, errW_none, errW_some] <;> rfl), by first | exact Kd.R_nil _ _ _ _ _ | exact Kd.N_nil _ _ _ _ _ | exact Kd.V_nil _ _ _ _ _ | exact Kd.Q_nil _ _ _ _ _ | exact Kd.S_nil _ _ _ _ _, by repeat (first | (with_reducible first | exact HB.out | apply below_alloc | apply pw_below_drewN | apply below_drew1 | refine below_set ?_ GE680.out) | exact HB.out)⟩
                 ·rw [if_neg c23] at H
                  exact absurd H (by simp)
                ·rw [if_neg c22] at H
                 exact absurd H (by simp)
               ·rw [if_neg c21] at H
                exact absurd H (by simp)
           ·rw [if_neg c14] at H
            exact absurd H (by simp)
          ·rw [if_neg c13] at H
           exact absurd H (by simp)
      ·rw [if_neg c5] at H
       exact absurd H (by simp)
     ·rw [if_neg c4] at H
      exact absurd H (by simp)
    ·rw [if_neg c3] at H
     have c3b0 : decide (x5_1 < (l0.length : Int)) = false := decide_eq_false c3
     clear c3
     simp only [Option.some.injEq, Prod.mk.injEq] at H
     obtain ⟨rfl, rfl⟩ := H
     go_wp2
     go_ret2
     exact ⟨_, by first | rfl | (simp [errW_none, errW_some] <;> rfl) | (simp [*, errW_none, errW_some] <;> rfl), by (with_reducible repeat (first | apply Kd.R_alloc | apply Kd.R_drewN | apply Kd.R_drew)); exact HO_4.out, by repeat (first | (with_reducible first | exact HB.out | apply below_alloc | apply pw_below_drewN | apply below_drew1) | exact HB.out)⟩
def stratumlaw05_TlvTakes.f (k : Nat) (l0 : List Int) : Option (Bool) := (stratumlaw05_lives.f k).bind fun t684 => (if t684 = true then (if (l0.length : Int) > 33554432 then (some true) else ((stratumref05_Decode.f k l0).bind fun bt685 => ((tlv_Decode.f k l0).bind fun bt689 => (if bt689.2 = bt685.2 then ((stratumlaw05_same.f k bt689.1 bt685.1).bind fun t693 => (some t693)) else (some false))))) else (some false))
set_option maxHeartbeats 8000000 in
set_option maxRecDepth 100000 in
theorem stratumlaw05_TlvTakes.calls (k : Nat) (A0 : Option Addr) (c0 : Nat) (l0 : List Int) (r : Bool) (w : World) (hr0 : Kd.C (Kd.int .u8) w A0 l0.length l0) (hc0 : l0.length ≤ c0) (h : stratumlaw05_TlvTakes.f k l0 = some r) (hr_ : Aside0 (r = true)) :
  Calls Try.prog 10 #[.slice A0 l0.length c0] w fun e w' => e = .returned (.bool r) ∧ Below w.heap.size w w' := by
 have HR0 := Aside0.mk hr0
 have HC0 := Aside0.mk hc0
 clear hr0 hc0
 have HB := Aside0.mk (Below.refl w.heap.size w)
 have H : ((stratumlaw05_lives.f k).bind fun t684 => (if t684 = true then (if (l0.length : Int) > 33554432 then (some true) else ((stratumref05_Decode.f k l0).bind fun bt685 => ((tlv_Decode.f k l0).bind fun bt689 => (if bt689.2 = bt685.2 then ((stratumlaw05_same.f k bt689.1 bt685.1).bind fun t693 => (some t693)) else (some false))))) else (some false))) = some r := h
 clear h
 replace H := Option.bind_eq_some_iff.mp H
 obtain ⟨t684, A20, H⟩ := H
 replace H : (if t684 = true then (if (l0.length : Int) > 33554432 then (some true) else ((stratumref05_Decode.f k l0).bind fun bt685 => ((tlv_Decode.f k l0).bind fun bt689 => (if bt689.2 = bt685.2 then ((stratumlaw05_same.f k bt689.1 bt685.1).bind fun t693 => (some t693)) else (some false))))) else (some false)) = some r := H
 have A2 := Aside0.mk A20
 clear A20
 by_cases c3 : t684 = true
 ·subst c3
  have H1 : (if (l0.length : Int) > 33554432 then (some true) else ((stratumref05_Decode.f k l0).bind fun bt685 => ((tlv_Decode.f k l0).bind fun bt689 => (if bt689.2 = bt685.2 then ((stratumlaw05_same.f k bt689.1 bt685.1).bind fun t693 => (some t693)) else (some false))))) = some r := by rw [if_pos rfl] at H; exact H
  clear H
  have H := H1
  clear H1
  by_cases c4 : (l0.length : Int) > 33554432
  ·rw [if_pos c4] at H
   have c4b0 : decide (33554432 < (l0.length : Int)) = true := decide_eq_true c4
   have c4b1 : decide (33554432 < l0.length) = true := decide_eq_true (by omega)
   clear c4
   obtain rfl := Option.some.inj H
   go_enter Try.func10, Try.ntmps10
   go_wp2_with (first | ((with_reducible refine gate_callee (f := 30) rfl ?_); refine goesL_ (some 7) rfl rfl Try.func30 (by kernel_rfl) rfl #[] rfl (by (try simp only [List.map_toArray, List.map_cons, List.map_nil]); first | done | rfl | (simp only [List.length_drop, List.length_take]; rfl)) ?_; (with_reducible refine (stratumlaw05_lives.calls k  true _ A2.out).mono ?_); rintro e w5 ⟨rfl, hb⟩; refine ⟨_, rfl, ?_⟩; have n0_ := Aside0.mk (below_step (by repeat (first | (with_reducible first | exact HB.out | apply below_alloc | apply pw_below_drewN | apply below_drew1) | exact HB.out)) hb); clear HB; have HB := n0_; clear n0_; (try clear hb); (try clear hb2); (try clear hk); (try clear hi)))
   go_ret
   exact ⟨by first | rfl | (simp [errW_none, errW_some] <;> rfl) | (simp [*, errW_none, errW_some] <;> rfl), by repeat (first | (with_reducible first | exact HB.out | apply below_alloc | apply pw_below_drewN | apply below_drew1) | exact HB.out)⟩
  ·rw [if_neg c4] at H
   have c4b0 : decide (33554432 < (l0.length : Int)) = false := decide_eq_false c4
   have c4b1 : decide (33554432 < l0.length) = false := decide_eq_false (by omega)
   clear c4
   replace H := Option.bind_eq_some_iff.mp H
   obtain ⟨⟨t685, t686⟩, A60, H⟩ := H
   replace H : ((tlv_Decode.f k l0).bind fun bt689 => (if bt689.2 = t686 then ((stratumlaw05_same.f k bt689.1 t685).bind fun t693 => (some t693)) else (some false))) = some r := H
   have A6 := Aside0.mk A60
   clear A60
   replace H := Option.bind_eq_some_iff.mp H
   obtain ⟨⟨t689, t692⟩, A70, H⟩ := H
   replace H : (if t692 = t686 then ((stratumlaw05_same.f k t689 t685).bind fun t693 => (some t693)) else (some false)) = some r := H
   have A7 := Aside0.mk A70
   clear A70
   by_cases c8 : t692 = t686
   ·rw [if_pos c8] at H
    have c8b0 : (t692 == t686) = true := beq_iff_eq.mpr c8
    have c8b1 : (t692 != t686) = false := bne_eq_false_iff_eq.mpr c8
    clear c8
    replace H := Option.bind_eq_some_iff.mp H
    obtain ⟨t693, A90, H⟩ := H
    replace H : (some t693) = some r := H
    have A9 := Aside0.mk A90
    clear A90
    obtain rfl := Option.some.inj H
    go_enter Try.func10, Try.ntmps10
    go_wp2_with (first | ((with_reducible refine gate_callee (f := 30) rfl ?_); refine goesL_ (some 7) rfl rfl Try.func30 (by kernel_rfl) rfl #[] rfl (by (try simp only [List.map_toArray, List.map_cons, List.map_nil]); first | done | rfl | (simp only [List.length_drop, List.length_take]; rfl)) ?_; (with_reducible refine (stratumlaw05_lives.calls k  true _ A2.out).mono ?_); rintro e w10 ⟨rfl, hb⟩; refine ⟨_, rfl, ?_⟩; have n0_ := Aside0.mk (below_step (by repeat (first | (with_reducible first | exact HB.out | apply below_alloc | apply pw_below_drewN | apply below_drew1) | exact HB.out)) hb); clear HB; have HB := n0_; clear n0_; (try clear hb); (try clear hb2); (try clear hk); (try clear hi)) | ((with_reducible refine gate_callee (f := 39) rfl ?_); refine goesL_ (some 14) rfl rfl Try.func39 (by kernel_rfl) rfl #[.slice A0 l0.length c0] rfl (by (try simp only [List.map_toArray, List.map_cons, List.map_nil]); first | done | rfl | (simp only [List.length_drop, List.length_take]; rfl)) ?_; (with_reducible refine (stratumref05_Decode.calls k _ _ l0 t685 t686 _ ?side1 ?side2 A6.out).mono ?_); (case side1 => repeat (first | exact (Kd.C_below HR0.out HB.out) | (with_reducible refine Kd.C_alloc ?_ _) | (with_reducible refine Kd.C_drewN ?_ _) | (with_reducible refine Kd.C_drew ?_))); (case side2 => exact HC0.out); rintro e w11 ⟨v687, rfl, ho0, hb⟩; refine ⟨_, rfl, ?_⟩; have n0_ := Aside0.mk (Kd.R_lower ho0 (below_size (by repeat (first | (with_reducible first | exact HB.out | apply below_alloc | apply pw_below_drewN | apply below_drew1) | exact HB.out)))); have n1_ := Aside0.mk (below_step (by repeat (first | (with_reducible first | exact HB.out | apply below_alloc | apply pw_below_drewN | apply below_drew1) | exact HB.out)) hb); clear HB; have HO688 := n0_; have HB := n1_; clear n0_ n1_; (try clear hb); (try clear hb2); (try clear hk); (try clear hi); (try clear ho0)) | ((with_reducible refine gate_callee (f := 40) rfl ?_); refine goesL_ (some 19) rfl rfl Try.func40 (by kernel_rfl) rfl #[.slice A0 l0.length c0] rfl (by (try simp only [List.map_toArray, List.map_cons, List.map_nil]); first | done | rfl | (simp only [List.length_drop, List.length_take]; rfl)) ?_; (with_reducible refine (tlv_Decode.calls k (fun k_ => k_ < w.heap.size) _ _ l0 t689 t692 _ ?side1 A7.out).mono ?_); (case side1 => exact Kd.V_mk HC0.out (Kd.F_below (Kd.C_F (Kd.heap_int .u8) HR0.out) (by repeat (first | (with_reducible first | exact HB.out | apply below_alloc | apply pw_below_drewN | apply below_drew1) | exact HB.out)))); rintro e w12 ⟨v690, rfl, ho0, hb⟩; refine ⟨_, rfl, ?_⟩; have n0_ := Aside0.mk (Kd.R_elder' (by (with_reducible repeat (first | apply Kd.R_alloc | apply Kd.R_drewN | apply Kd.R_drew)); exact HO688.out) (Kd.R_base ho0) hb); have n1_ := Aside0.mk (Kd.R_lower (Kd.R_new' (Kd.R_mono (ok' := fun k_ => True) ho0 (fun _ hk_ => trivial)) (Kd.R_lt (by (with_reducible repeat (first | apply Kd.R_alloc | apply Kd.R_drewN | apply Kd.R_drew)); exact HO688.out))) (below_size (by repeat (first | (with_reducible first | exact HB.out | apply below_alloc | apply pw_below_drewN | apply below_drew1) | exact HB.out)))); have n2_ := Aside0.mk (below_step (by repeat (first | (with_reducible first | exact HB.out | apply below_alloc | apply pw_below_drewN | apply below_drew1) | exact HB.out)) hb); clear HO688; clear HB; have HO688 := n0_; have HO691 := n1_; have HB := n2_; clear n0_ n1_ n2_; (try clear hb); (try clear hb2); (try clear hk); (try clear hi); (try clear ho0); obtain ⟨Ao13, co13, eo13⟩ := Kd.R_slice HO691.out; subst eo13; obtain ⟨Ao14, co14, eo14⟩ := Kd.R_slice HO688.out; subst eo14) | (go_at_call 41; (with_reducible refine (stratumlaw05_same.calls k _ _ t689 _ _ t685 t693 _ ?side1 ?side2 ?side3 ?side4 A9.out).mono ?_); (case side1 => repeat (first | exact (Kd.R_reads' HO691.out).2.2 | (with_reducible refine Kd.C_alloc ?_ _) | (with_reducible refine Kd.C_drewN ?_ _) | (with_reducible refine Kd.C_drew ?_))); (case side2 => exact (Kd.R_reads' HO691.out).2.1); (case side3 => repeat (first | exact (Kd.R_reads' HO688.out).2.2 | (with_reducible refine Kd.C_alloc ?_ _) | (with_reducible refine Kd.C_drewN ?_ _) | (with_reducible refine Kd.C_drew ?_))); (case side4 => exact (Kd.R_reads' HO688.out).2.1); rintro e w' ⟨rfl, ⟨nd, rfl⟩⟩))
    go_ret
    exact ⟨by first | rfl | (simp [errW_none, errW_some] <;> rfl) | (simp [*, errW_none, errW_some] <;> rfl), by repeat (first | (with_reducible first | exact HB.out | apply below_alloc | apply pw_below_drewN | apply below_drew1) | exact HB.out)⟩
   ·rw [if_neg c8] at H
    have c8b0 : (t692 == t686) = false := beq_eq_false_iff_ne.mpr c8
    have c8b1 : (t692 != t686) = true := bne_iff_ne.mpr c8
    exact absurd ((Option.some.inj H).trans hr_.out) (by simp)
 ·replace c3 := Bool.eq_false_iff.mpr c3
  subst c3
  have H1 : (some false) = some r := by rw [if_neg (show ¬ (false = true) by decide)] at H; exact H
  clear H
  have H := H1
  clear H1
  exact absurd ((Option.some.inj H).trans hr_.out) (by simp)
/-- THE ONE PURE STATEMENT of stratumlaw05_TlvTakes: yours. -/
def stratumlaw05_TlvTakes.Pure : Prop := ∀ (l0 : List Int), l0.length ≤ maxLen → l0.length * 1 ≤ 140737488351232 → (∀ x ∈ l0, (Lit.int .u8 x).wf = true) → ∃ k, stratumlaw05_TlvTakes.f k l0 = some true
theorem stratumlaw05_TlvTakes.walk (P : stratumlaw05_TlvTakes.Pure) (a0 : Option Addr) (len0 cap0 : Nat) (z0 : List Int) (w : World) (w0 : (a0 = none ∧ len0 = 0 ∧ cap0 = 0 ∧ z0 = []) ∨ ∃ x, a0 = some x ∧ len0 ≤ cap0 ∧ cap0 ≤ maxLen ∧ z0.length = cap0 ∧ (∀ i, i < z0.length → w.cell? (x.add i) = some (.int .u8 (z0.getD i 0))) ∧ ∀ n ∈ z0, (Lit.int .u8 n).wf = true) (y0 : len0 * 1 ≤ 140737488351232) :
  Calls Try.prog 10 #[.slice a0 len0 cap0] w fun e w' => e = .returned (.bool true) ∧ Below w.heap.size w w' := by
 obtain ⟨l0, rfl, hr0, hm0, hw0, hc0⟩ := ReadsInt.ofRowC w0
 obtain ⟨k, h⟩ := P l0 hm0 y0 hw0
 refine (stratumlaw05_TlvTakes.calls k _ _ l0 true w (Kd.C_of_reads (d := (0 : Int)) (h1 := fun _ => rfl) hr0) hc0 h ⟨rfl⟩).mono ?_
 rintro e w' ⟨rfl, hd⟩
 exact ⟨rfl, hd⟩
def stratumlaw05_TlvBack.j0 : Nat → List (S53) → Int → List Int → Bool → Option (Bool)
 | 0, _, _, _, _ => none
 | k + 1, x0, x4, x5, x55 => if x55 = true then (some false) else (if x4 = 0 then ((tlv_Decode.f k x5).bind fun bt704 => (if bt704.2 = 0 then ((stratumlaw05_same.f k bt704.1 x0).bind fun t708 => (if t708 = true then (some (decide ((x5.length : Int) ≤ 16777215))) else (some false))) else (some false))) else (some ((x5.length : Int) == 0)))
def stratumlaw05_TlvBack.f (k : Nat) (l0 : List (S53)) : Option (Bool) := (stratumlaw05_lives.f k).bind fun t694 => (if t694 = true then ((stratumlaw05_heavy.f k l0).bind fun t695 => (if t695 = true then (some true) else ((tlv_Check.f k l0).bind fun bt696 => ((tlv_Encode.f k l0).bind fun bt698 => ((tlv_Size.f k l0).bind fun bt702 => (if bt696.2 = bt698.2 then (if bt696.2 = bt702.2 then (if bt702.1 = (bt698.1.length : Int) then (if bt696.2 = 0 then (stratumlaw05_TlvBack.j0 k l0 bt696.2 bt698.1 false) else (if bt696.2 = 1 then (stratumlaw05_TlvBack.j0 k l0 bt696.2 bt698.1 false) else (stratumlaw05_TlvBack.j0 k l0 bt696.2 bt698.1 (bt696.2 != 2)))) else (stratumlaw05_TlvBack.j0 k l0 bt696.2 bt698.1 true)) else (stratumlaw05_TlvBack.j0 k l0 bt696.2 bt698.1 true)) else (stratumlaw05_TlvBack.j0 k l0 bt696.2 bt698.1 true))))))) else (some false))
set_option maxHeartbeats 8000000 in
set_option maxRecDepth 100000 in
theorem stratumlaw05_TlvBack.calls (k : Nat) (A0 : Option Addr) (c0 : Nat) (l0 : List (S53)) (r : Bool) (w : World) (hr0 : Kd.C k53 w A0 l0.length l0) (hc0 : l0.length ≤ c0) (h : stratumlaw05_TlvBack.f k l0 = some r) (hr_ : Aside0 (r = true)) :
  Calls Try.prog 11 #[.slice A0 l0.length c0] w fun e w' => e = .returned (.bool r) ∧ Below w.heap.size w w' := by
 have HR0 := Aside0.mk hr0
 have HC0 := Aside0.mk hc0
 clear hr0 hc0
 have HB := Aside0.mk (Below.refl w.heap.size w)
 have H : ((stratumlaw05_lives.f k).bind fun t694 => (if t694 = true then ((stratumlaw05_heavy.f k l0).bind fun t695 => (if t695 = true then (some true) else ((tlv_Check.f k l0).bind fun bt696 => ((tlv_Encode.f k l0).bind fun bt698 => ((tlv_Size.f k l0).bind fun bt702 => (if bt696.2 = bt698.2 then (if bt696.2 = bt702.2 then (if bt702.1 = (bt698.1.length : Int) then (if bt696.2 = 0 then (stratumlaw05_TlvBack.j0 k l0 bt696.2 bt698.1 false) else (if bt696.2 = 1 then (stratumlaw05_TlvBack.j0 k l0 bt696.2 bt698.1 false) else (stratumlaw05_TlvBack.j0 k l0 bt696.2 bt698.1 (bt696.2 != 2)))) else (stratumlaw05_TlvBack.j0 k l0 bt696.2 bt698.1 true)) else (stratumlaw05_TlvBack.j0 k l0 bt696.2 bt698.1 true)) else (stratumlaw05_TlvBack.j0 k l0 bt696.2 bt698.1 true))))))) else (some false))) = some r := h
 clear h
 replace H := Option.bind_eq_some_iff.mp H
 obtain ⟨t694, A20, H⟩ := H
 replace H : (if t694 = true then ((stratumlaw05_heavy.f k l0).bind fun t695 => (if t695 = true then (some true) else ((tlv_Check.f k l0).bind fun bt696 => ((tlv_Encode.f k l0).bind fun bt698 => ((tlv_Size.f k l0).bind fun bt702 => (if bt696.2 = bt698.2 then (if bt696.2 = bt702.2 then (if bt702.1 = (bt698.1.length : Int) then (if bt696.2 = 0 then (stratumlaw05_TlvBack.j0 k l0 bt696.2 bt698.1 false) else (if bt696.2 = 1 then (stratumlaw05_TlvBack.j0 k l0 bt696.2 bt698.1 false) else (stratumlaw05_TlvBack.j0 k l0 bt696.2 bt698.1 (bt696.2 != 2)))) else (stratumlaw05_TlvBack.j0 k l0 bt696.2 bt698.1 true)) else (stratumlaw05_TlvBack.j0 k l0 bt696.2 bt698.1 true)) else (stratumlaw05_TlvBack.j0 k l0 bt696.2 bt698.1 true))))))) else (some false)) = some r := H
 have A2 := Aside0.mk A20
 clear A20
 by_cases c3 : t694 = true
 ·subst c3
  have H1 : ((stratumlaw05_heavy.f k l0).bind fun t695 => (if t695 = true then (some true) else ((tlv_Check.f k l0).bind fun bt696 => ((tlv_Encode.f k l0).bind fun bt698 => ((tlv_Size.f k l0).bind fun bt702 => (if bt696.2 = bt698.2 then (if bt696.2 = bt702.2 then (if bt702.1 = (bt698.1.length : Int) then (if bt696.2 = 0 then (stratumlaw05_TlvBack.j0 k l0 bt696.2 bt698.1 false) else (if bt696.2 = 1 then (stratumlaw05_TlvBack.j0 k l0 bt696.2 bt698.1 false) else (stratumlaw05_TlvBack.j0 k l0 bt696.2 bt698.1 (bt696.2 != 2)))) else (stratumlaw05_TlvBack.j0 k l0 bt696.2 bt698.1 true)) else (stratumlaw05_TlvBack.j0 k l0 bt696.2 bt698.1 true)) else (stratumlaw05_TlvBack.j0 k l0 bt696.2 bt698.1 true))))))) = some r := by rw [if_pos rfl] at H; exact H
  clear H
  have H := H1
  clear H1
  replace H := Option.bind_eq_some_iff.mp H
  obtain ⟨t695, A40, H⟩ := H
  replace H : (if t695 = true then (some true) else ((tlv_Check.f k l0).bind fun bt696 => ((tlv_Encode.f k l0).bind fun bt698 => ((tlv_Size.f k l0).bind fun bt702 => (if bt696.2 = bt698.2 then (if bt696.2 = bt702.2 then (if bt702.1 = (bt698.1.length : Int) then (if bt696.2 = 0 then (stratumlaw05_TlvBack.j0 k l0 bt696.2 bt698.1 false) else (if bt696.2 = 1 then (stratumlaw05_TlvBack.j0 k l0 bt696.2 bt698.1 false) else (stratumlaw05_TlvBack.j0 k l0 bt696.2 bt698.1 (bt696.2 != 2)))) else (stratumlaw05_TlvBack.j0 k l0 bt696.2 bt698.1 true)) else (stratumlaw05_TlvBack.j0 k l0 bt696.2 bt698.1 true)) else (stratumlaw05_TlvBack.j0 k l0 bt696.2 bt698.1 true)))))) = some r := H
  have A4 := Aside0.mk A40
  clear A40
  by_cases c5 : t695 = true
  ·subst c5
   have H1 : (some true) = some r := by rw [if_pos rfl] at H; exact H
   clear H
   have H := H1
   clear H1
   obtain rfl := Option.some.inj H
   go_enter Try.func11, Try.ntmps11
   go_wp2_with (first | ((with_reducible refine gate_callee (f := 30) rfl ?_); refine goesL_ (some 11) rfl rfl Try.func30 (by kernel_rfl) rfl #[] rfl (by (try simp only [List.map_toArray, List.map_cons, List.map_nil]); first | done | rfl | (simp only [List.length_drop, List.length_take]; rfl)) ?_; (with_reducible refine (stratumlaw05_lives.calls k  true _ A2.out).mono ?_); rintro e w6 ⟨rfl, hb⟩; refine ⟨_, rfl, ?_⟩; have n0_ := Aside0.mk (below_step (by repeat (first | (with_reducible first | exact HB.out | apply below_alloc | apply pw_below_drewN | apply below_drew1) | exact HB.out)) hb); clear HB; have HB := n0_; clear n0_; (try clear hb); (try clear hb2); (try clear hk); (try clear hi)) | ((with_reducible refine gate_callee (f := 31) rfl ?_); refine goesL_ (some 14) rfl rfl Try.func31 (by kernel_rfl) rfl #[.slice A0 l0.length c0] rfl (by (try simp only [List.map_toArray, List.map_cons, List.map_nil]); first | done | rfl | (simp only [List.length_drop, List.length_take]; rfl)) ?_; (with_reducible refine (stratumlaw05_heavy.calls k _ _ l0 true _ ?side1 ?side2 A4.out).mono ?_); (case side1 => repeat (first | exact (Kd.C_below HR0.out HB.out) | (with_reducible refine Kd.C_alloc ?_ _) | (with_reducible refine Kd.C_drewN ?_ _) | (with_reducible refine Kd.C_drew ?_))); (case side2 => exact HC0.out); rintro e w' ⟨rfl, ⟨nd, rfl⟩⟩; refine ⟨_, rfl, ?_⟩))
   go_ret
   exact ⟨by first | rfl | (simp [errW_none, errW_some] <;> rfl) | (simp [*, errW_none, errW_some] <;> rfl), by repeat (first | (with_reducible first | exact HB.out | apply below_alloc | apply pw_below_drewN | apply below_drew1) | exact HB.out)⟩
  ·replace c5 := Bool.eq_false_iff.mpr c5
   subst c5
   have H1 : ((tlv_Check.f k l0).bind fun bt696 => ((tlv_Encode.f k l0).bind fun bt698 => ((tlv_Size.f k l0).bind fun bt702 => (if bt696.2 = bt698.2 then (if bt696.2 = bt702.2 then (if bt702.1 = (bt698.1.length : Int) then (if bt696.2 = 0 then (stratumlaw05_TlvBack.j0 k l0 bt696.2 bt698.1 false) else (if bt696.2 = 1 then (stratumlaw05_TlvBack.j0 k l0 bt696.2 bt698.1 false) else (stratumlaw05_TlvBack.j0 k l0 bt696.2 bt698.1 (bt696.2 != 2)))) else (stratumlaw05_TlvBack.j0 k l0 bt696.2 bt698.1 true)) else (stratumlaw05_TlvBack.j0 k l0 bt696.2 bt698.1 true)) else (stratumlaw05_TlvBack.j0 k l0 bt696.2 bt698.1 true))))) = some r := by rw [if_neg (show ¬ (false = true) by decide)] at H; exact H
   clear H
   have H := H1
   clear H1
   replace H := Option.bind_eq_some_iff.mp H
   obtain ⟨⟨t696, t697⟩, A70, H⟩ := H
   replace H : ((tlv_Encode.f k l0).bind fun bt698 => ((tlv_Size.f k l0).bind fun bt702 => (if t697 = bt698.2 then (if t697 = bt702.2 then (if bt702.1 = (bt698.1.length : Int) then (if t697 = 0 then (stratumlaw05_TlvBack.j0 k l0 t697 bt698.1 false) else (if t697 = 1 then (stratumlaw05_TlvBack.j0 k l0 t697 bt698.1 false) else (stratumlaw05_TlvBack.j0 k l0 t697 bt698.1 (t697 != 2)))) else (stratumlaw05_TlvBack.j0 k l0 t697 bt698.1 true)) else (stratumlaw05_TlvBack.j0 k l0 t697 bt698.1 true)) else (stratumlaw05_TlvBack.j0 k l0 t697 bt698.1 true)))) = some r := H
   have A7 := Aside0.mk A70
   clear A70
   replace H := Option.bind_eq_some_iff.mp H
   obtain ⟨⟨t698, t699⟩, A80, H⟩ := H
   replace H : ((tlv_Size.f k l0).bind fun bt702 => (if t697 = t699 then (if t697 = bt702.2 then (if bt702.1 = (t698.length : Int) then (if t697 = 0 then (stratumlaw05_TlvBack.j0 k l0 t697 t698 false) else (if t697 = 1 then (stratumlaw05_TlvBack.j0 k l0 t697 t698 false) else (stratumlaw05_TlvBack.j0 k l0 t697 t698 (t697 != 2)))) else (stratumlaw05_TlvBack.j0 k l0 t697 t698 true)) else (stratumlaw05_TlvBack.j0 k l0 t697 t698 true)) else (stratumlaw05_TlvBack.j0 k l0 t697 t698 true))) = some r := H
   have A8 := Aside0.mk A80
   clear A80
   replace H := Option.bind_eq_some_iff.mp H
   obtain ⟨⟨t702, t703⟩, A90, H⟩ := H
   replace H : (if t697 = t699 then (if t697 = t703 then (if t702 = (t698.length : Int) then (if t697 = 0 then (stratumlaw05_TlvBack.j0 k l0 t697 t698 false) else (if t697 = 1 then (stratumlaw05_TlvBack.j0 k l0 t697 t698 false) else (stratumlaw05_TlvBack.j0 k l0 t697 t698 (t697 != 2)))) else (stratumlaw05_TlvBack.j0 k l0 t697 t698 true)) else (stratumlaw05_TlvBack.j0 k l0 t697 t698 true)) else (stratumlaw05_TlvBack.j0 k l0 t697 t698 true)) = some r := H
   have A9 := Aside0.mk A90
   clear A90
   have HC10 := Aside0.mk H
   clear H
   go_enter Try.func11, Try.ntmps11
   go_upto_region 8 with (first | ((with_reducible refine gate_callee (f := 30) rfl ?_); refine goesL_ (some 11) rfl rfl Try.func30 (by kernel_rfl) rfl #[] rfl (by (try simp only [List.map_toArray, List.map_cons, List.map_nil]); first | done | rfl | (simp only [List.length_drop, List.length_take]; rfl)) ?_; (with_reducible refine (stratumlaw05_lives.calls k  true _ A2.out).mono ?_); rintro e w11 ⟨rfl, hb⟩; refine ⟨_, rfl, ?_⟩; have n0_ := Aside0.mk (below_step (by repeat (first | (with_reducible first | exact HB.out | apply below_alloc | apply pw_below_drewN | apply below_drew1) | exact HB.out)) hb); clear HB; have HB := n0_; clear n0_; (try clear hb); (try clear hb2); (try clear hk); (try clear hi)) | ((with_reducible refine gate_callee (f := 31) rfl ?_); refine goesL_ (some 14) rfl rfl Try.func31 (by kernel_rfl) rfl #[.slice A0 l0.length c0] rfl (by (try simp only [List.map_toArray, List.map_cons, List.map_nil]); first | done | rfl | (simp only [List.length_drop, List.length_take]; rfl)) ?_; (with_reducible refine (stratumlaw05_heavy.calls k _ _ l0 false _ ?side1 ?side2 A4.out).mono ?_); (case side1 => repeat (first | exact (Kd.C_below HR0.out HB.out) | (with_reducible refine Kd.C_alloc ?_ _) | (with_reducible refine Kd.C_drewN ?_ _) | (with_reducible refine Kd.C_drew ?_))); (case side2 => exact HC0.out); rintro e w' ⟨rfl, ⟨nd, rfl⟩⟩; refine ⟨_, rfl, ?_⟩) | ((with_reducible refine gate_callee (f := 33) rfl ?_); refine goesL_ (some 17) rfl rfl Try.func33 (by kernel_rfl) rfl #[.slice A0 l0.length c0] rfl (by (try simp only [List.map_toArray, List.map_cons, List.map_nil]); first | done | rfl | (simp only [List.length_drop, List.length_take]; rfl)) ?_; (with_reducible refine (tlv_Check.calls k _ _ l0 t696 t697 _ ?side1 ?side2 A7.out).mono ?_); (case side1 => repeat (first | exact (Kd.C_below HR0.out (by repeat (first | (with_reducible first | exact HB.out | apply below_alloc | apply pw_below_drewN | apply below_drew1) | exact HB.out))) | (with_reducible refine Kd.C_alloc ?_ _) | (with_reducible refine Kd.C_drewN ?_ _) | (with_reducible refine Kd.C_drew ?_))); (case side2 => exact HC0.out); rintro e w12 ⟨rfl, hb⟩; refine ⟨_, rfl, ?_⟩; have n0_ := Aside0.mk (below_step (by repeat (first | (with_reducible first | exact HB.out | apply below_alloc | apply pw_below_drewN | apply below_drew1) | exact HB.out)) hb); clear HB; have HB := n0_; clear n0_; (try clear hb); (try clear hb2); (try clear hk); (try clear hi)) | ((with_reducible refine gate_callee (f := 35) rfl ?_); refine goesL_ (some 22) rfl rfl Try.func35 (by kernel_rfl) rfl #[.slice A0 l0.length c0] rfl (by (try simp only [List.map_toArray, List.map_cons, List.map_nil]); first | done | rfl | (simp only [List.length_drop, List.length_take]; rfl)) ?_; (with_reducible refine (tlv_Encode.calls k _ _ l0 t698 t699 _ ?side1 ?side2 A8.out).mono ?_); (case side1 => repeat (first | exact (Kd.C_below HR0.out HB.out) | (with_reducible refine Kd.C_alloc ?_ _) | (with_reducible refine Kd.C_drewN ?_ _) | (with_reducible refine Kd.C_drew ?_))); (case side2 => exact HC0.out); rintro e w13 ⟨v700, rfl, ho0, hb⟩; refine ⟨_, rfl, ?_⟩; have n0_ := Aside0.mk (Kd.R_lower ho0 (below_size (by repeat (first | (with_reducible first | exact HB.out | apply below_alloc | apply pw_below_drewN | apply below_drew1) | exact HB.out)))); have n1_ := Aside0.mk (below_step (by repeat (first | (with_reducible first | exact HB.out | apply below_alloc | apply pw_below_drewN | apply below_drew1) | exact HB.out)) hb); clear HB; have HO701 := n0_; have HB := n1_; clear n0_ n1_; (try clear hb); (try clear hb2); (try clear hk); (try clear hi); (try clear ho0)) | ((with_reducible refine gate_callee (f := 37) rfl ?_); refine goesL_ (some 27) rfl rfl Try.func37 (by kernel_rfl) rfl #[.slice A0 l0.length c0] rfl (by (try simp only [List.map_toArray, List.map_cons, List.map_nil]); first | done | rfl | (simp only [List.length_drop, List.length_take]; rfl)) ?_; (with_reducible refine (tlv_Size.calls k _ _ l0 t702 t703 _ ?side1 ?side2 A9.out).mono ?_); (case side1 => repeat (first | exact (Kd.C_below HR0.out HB.out) | (with_reducible refine Kd.C_alloc ?_ _) | (with_reducible refine Kd.C_drewN ?_ _) | (with_reducible refine Kd.C_drew ?_))); (case side2 => exact HC0.out); rintro e w14 ⟨rfl, hb⟩; refine ⟨_, rfl, ?_⟩; have n0_ := Aside0.mk (Kd.R_below (by (with_reducible repeat (first | apply Kd.R_alloc | apply Kd.R_drewN | apply Kd.R_drew)); exact HO701.out) hb); have n1_ := Aside0.mk (below_step (by repeat (first | (with_reducible first | exact HB.out | apply below_alloc | apply pw_below_drewN | apply below_drew1) | exact HB.out)) hb); clear HO701; clear HB; have HO701 := n0_; have HB := n1_; clear n0_ n1_; (try clear hb); (try clear hb2); (try clear hk); (try clear hi)))
   (try simp only [Act.put, List.setIfInBounds_toArray, List.set_cons_zero, List.set_cons_succ])
   go_cut [55] (fun v55 wc => ∃ (kq : Nat) (x55_9 : Bool), v55 = .bool x55_9 ∧ Aside0 (stratumlaw05_TlvBack.j0 kq l0 t697 t698 x55_9 = some r) ∧ Aside0 (kq ≤ k) ∧ Aside0 (Kd.R (Kd.int .u8) 5 wc w.heap.size (fun _ => True) v700 t698) ∧ Aside0 (Below w.heap.size w wc))
   case first =>
    have H := HC10.out
    clear HC10
    by_cases c15 : t697 = t699
    ·rw [if_pos c15] at H
     have c15b0 : (t697 == t699) = true := beq_iff_eq.mpr c15
     have c15b1 : (t697 != t699) = false := bne_eq_false_iff_eq.mpr c15
     clear c15
     (first | rw [c15b0] | (simp only [i64_w, i32_w]; rw [c15b0]) | skip)
     by_cases c16 : t697 = t703
     ·rw [if_pos c16] at H
      have c16b0 : (t697 == t703) = true := beq_iff_eq.mpr c16
      have c16b1 : (t697 != t703) = false := bne_eq_false_iff_eq.mpr c16
      clear c16
      by_cases c17 : t702 = (t698.length : Int)
      ·rw [if_pos c17] at H
       have c17b0 : (t702 == (t698.length : Int)) = true := beq_iff_eq.mpr c17
       have c17b1 : (t702 != (t698.length : Int)) = false := bne_eq_false_iff_eq.mpr c17
       clear c17
       by_cases c18 : t697 = 0
       ·rw [if_pos c18] at H
        have c18b0 : (t697 == 0) = true := beq_iff_eq.mpr c18
        have c18b1 : (t697 != 0) = false := bne_eq_false_iff_eq.mpr c18
        clear c18
        have H' := Aside0.mk H
        clear H
        obtain ⟨Ao19, co19, eo19⟩ := Kd.R_slice HO701.out
        subst eo19
        go_wp2
        go_meet
        case rel => exact ⟨_, (false), (by first | rfl | (simp; done) | (simp [*]; done)), H', ⟨by first | omega | exact Nat.le_refl _⟩, ⟨by (with_reducible repeat (first | apply Kd.R_alloc | apply Kd.R_drewN | apply Kd.R_drew)); exact HO701.out⟩, ⟨by repeat (first | (with_reducible first | exact HB.out | apply below_alloc | apply pw_below_drewN | apply below_drew1) | exact HB.out)⟩⟩
       ·rw [if_neg c18] at H
        have c18b0 : (t697 == 0) = false := beq_eq_false_iff_ne.mpr c18
        have c18b1 : (t697 != 0) = true := bne_iff_ne.mpr c18
        by_cases c20 : t697 = 1
        ·rw [if_pos c20] at H
         have c20b0 : (t697 == 1) = true := beq_iff_eq.mpr c20
         have c20b1 : (t697 != 1) = false := bne_eq_false_iff_eq.mpr c20
         clear c20
         have H' := Aside0.mk H
         clear H
         obtain ⟨Ao21, co21, eo21⟩ := Kd.R_slice HO701.out
         subst eo21
         go_wp2
         go_meet
         case rel => exact ⟨_, (false), (by first | rfl | (simp; done) | (simp [*]; done)), H', ⟨by first | omega | exact Nat.le_refl _⟩, ⟨by (with_reducible repeat (first | apply Kd.R_alloc | apply Kd.R_drewN | apply Kd.R_drew)); exact HO701.out⟩, ⟨by repeat (first | (with_reducible first | exact HB.out | apply below_alloc | apply pw_below_drewN | apply below_drew1) | exact HB.out)⟩⟩
        ·rw [if_neg c20] at H
         have c20b0 : (t697 == 1) = false := beq_eq_false_iff_ne.mpr c20
         have c20b1 : (t697 != 1) = true := bne_iff_ne.mpr c20
         have H' := Aside0.mk H
         clear H
         obtain ⟨Ao22, co22, eo22⟩ := Kd.R_slice HO701.out
         subst eo22
         go_wp2
         go_meet
         case rel => exact ⟨_, ((t697 != 2)), (by first | rfl | (simp; done) | (simp [*]; done)), H', ⟨by first | omega | exact Nat.le_refl _⟩, ⟨by (with_reducible repeat (first | apply Kd.R_alloc | apply Kd.R_drewN | apply Kd.R_drew)); exact HO701.out⟩, ⟨by repeat (first | (with_reducible first | exact HB.out | apply below_alloc | apply pw_below_drewN | apply below_drew1) | exact HB.out)⟩⟩
      ·rw [if_neg c17] at H
       have c17b0 : (t702 == (t698.length : Int)) = false := beq_eq_false_iff_ne.mpr c17
       have c17b1 : (t702 != (t698.length : Int)) = true := bne_iff_ne.mpr c17
       have H' := Aside0.mk H
       clear H
       obtain ⟨Ao23, co23, eo23⟩ := Kd.R_slice HO701.out
       subst eo23
       go_wp2
       go_meet
       case rel => exact ⟨_, (true), (by first | rfl | (simp; done) | (simp [*]; done)), H', ⟨by first | omega | exact Nat.le_refl _⟩, ⟨by (with_reducible repeat (first | apply Kd.R_alloc | apply Kd.R_drewN | apply Kd.R_drew)); exact HO701.out⟩, ⟨by repeat (first | (with_reducible first | exact HB.out | apply below_alloc | apply pw_below_drewN | apply below_drew1) | exact HB.out)⟩⟩
     ·rw [if_neg c16] at H
      have c16b0 : (t697 == t703) = false := beq_eq_false_iff_ne.mpr c16
      have c16b1 : (t697 != t703) = true := bne_iff_ne.mpr c16
      have H' := Aside0.mk H
      clear H
      go_wp2
      go_meet
      case rel => exact ⟨_, (true), (by first | rfl | (simp; done) | (simp [*]; done)), H', ⟨by first | omega | exact Nat.le_refl _⟩, ⟨by (with_reducible repeat (first | apply Kd.R_alloc | apply Kd.R_drewN | apply Kd.R_drew)); exact HO701.out⟩, ⟨by repeat (first | (with_reducible first | exact HB.out | apply below_alloc | apply pw_below_drewN | apply below_drew1) | exact HB.out)⟩⟩
    ·rw [if_neg c15] at H
     have c15b0 : (t697 == t699) = false := beq_eq_false_iff_ne.mpr c15
     have c15b1 : (t697 != t699) = true := bne_iff_ne.mpr c15
     (first | rw [c15b0] | (simp only [i64_w, i32_w]; rw [c15b0]) | skip)
     have H' := Aside0.mk H
     clear H
     go_wp2
     go_meet
     case rel => exact ⟨_, (true), (by first | rfl | (simp; done) | (simp [*]; done)), H', ⟨by first | omega | exact Nat.le_refl _⟩, ⟨by (with_reducible repeat (first | apply Kd.R_alloc | apply Kd.R_drewN | apply Kd.R_drew)); exact HO701.out⟩, ⟨by repeat (first | (with_reducible first | exact HB.out | apply below_alloc | apply pw_below_drewN | apply below_drew1) | exact HB.out)⟩⟩
   case rest =>
    clear HC10
    try clear c1
    try clear c2
    try clear p2
    try clear c3
    try clear c5
    try clear c11
    try clear c15
    try clear c15b0
    try clear c15b1
    try clear c16
    try clear c16b0
    try clear c16b1
    try clear c17
    try clear c17b0
    try clear c17b1
    try clear c18
    try clear c18b0
    try clear c18b1
    try clear c20
    try clear c20b0
    try clear c20b1
    obtain ⟨kq, x55_9, rfl, HA, HJ9, HO_5, HB⟩ := hcut
    cases kq with
    | zero => exact absurd HA.out (by simp [stratumlaw05_TlvBack.j0])
    | succ kj9 =>
     have H := HA.out
     clear HA
     simp only [stratumlaw05_TlvBack.j0] at H
     by_cases c24 : x55_9 = true
     ·subst c24
      have H1 : (some false) = some r := by rw [if_pos rfl] at H; exact H
      clear H
      have H := H1
      clear H1
      exact absurd ((Option.some.inj H).trans hr_.out) (by simp)
     ·replace c24 := Bool.eq_false_iff.mpr c24
      subst c24
      have H1 : (if t697 = 0 then ((tlv_Decode.f kj9 t698).bind fun bt704 => (if bt704.2 = 0 then ((stratumlaw05_same.f kj9 bt704.1 l0).bind fun t708 => (if t708 = true then (some (decide ((t698.length : Int) ≤ 16777215))) else (some false))) else (some false))) else (some ((t698.length : Int) == 0))) = some r := by rw [if_neg (show ¬ (false = true) by decide)] at H; exact H
      clear H
      have H := H1
      clear H1
      by_cases c25 : t697 = 0
      ·rw [if_pos c25] at H
       have c25b0 : (t697 == 0) = true := beq_iff_eq.mpr c25
       have c25b1 : (t697 != 0) = false := bne_eq_false_iff_eq.mpr c25
       clear c25
       replace H := Option.bind_eq_some_iff.mp H
       obtain ⟨⟨t704, t707⟩, A260, H⟩ := H
       replace H : (if t707 = 0 then ((stratumlaw05_same.f kj9 t704 l0).bind fun t708 => (if t708 = true then (some (decide ((t698.length : Int) ≤ 16777215))) else (some false))) else (some false)) = some r := H
       have A26 := Aside0.mk A260
       clear A260
       by_cases c27 : t707 = 0
       ·rw [if_pos c27] at H
        have c27b0 : (t707 == 0) = true := beq_iff_eq.mpr c27
        have c27b1 : (t707 != 0) = false := bne_eq_false_iff_eq.mpr c27
        clear c27
        replace H := Option.bind_eq_some_iff.mp H
        obtain ⟨t708, A280, H⟩ := H
        replace H : (if t708 = true then (some (decide ((t698.length : Int) ≤ 16777215))) else (some false)) = some r := H
        have A28 := Aside0.mk A280
        clear A280
        by_cases c29 : t708 = true
        ·subst c29
         have H1 : (some (decide ((t698.length : Int) ≤ 16777215))) = some r := by rw [if_pos rfl] at H; exact H
         clear H
         have H := H1
         clear H1
         obtain rfl := Option.some.inj H
         obtain ⟨Ao30, co30, eo30⟩ := Kd.R_slice HO_5.out
         subst eo30
         go_wp2_with (first | ((with_reducible refine gate_callee (f := 40) rfl ?_); refine goesL_ (some 63) rfl rfl Try.func40 (by kernel_rfl) rfl #[.slice Ao30 t698.length co30] rfl (by (try simp only [List.map_toArray, List.map_cons, List.map_nil]); first | done | rfl | (simp only [List.length_drop, List.length_take]; rfl)) ?_; (with_reducible refine (tlv_Decode.calls kj9 (fun k_ => some k_ = (.slice Ao30 t698.length co30 : Value).ownBlock) _ _ t698 t704 t707 _ ?side1 A26.out).mono ?_); (case side1 => exact Kd.R_V (Kd.R_tight rfl (HO_5.out))); rintro e w31 ⟨v705, rfl, ho0, hb⟩; refine ⟨_, rfl, ?_⟩; have n0_ := Aside0.mk (Kd.R_below (by (with_reducible repeat (first | apply Kd.R_alloc | apply Kd.R_drewN | apply Kd.R_drew)); exact HO_5.out) hb); have n1_ := Aside0.mk (Kd.R_lower (Kd.R_mono (ok' := fun k_ => True) ho0 (fun _ hk_ => trivial)) (below_size (by repeat (first | (with_reducible first | exact HB.out | apply below_alloc | apply pw_below_drewN | apply below_drew1) | exact HB.out)))); have n2_ := Aside0.mk (below_step (by repeat (first | (with_reducible first | exact HB.out | apply below_alloc | apply pw_below_drewN | apply below_drew1) | exact HB.out)) hb); clear HO_5; clear HB; have HO_5 := n0_; have HO706 := n1_; have HB := n2_; clear n0_ n1_ n2_; (try clear hb); (try clear hb2); (try clear hk); (try clear hi); (try clear ho0); obtain ⟨Ao32, co32, eo32⟩ := Kd.R_slice HO706.out; subst eo32) | (go_at_call 41; (with_reducible refine (stratumlaw05_same.calls kj9 _ _ t704 _ _ l0 true _ ?side1 ?side2 ?side3 ?side4 A28.out).mono ?_); (case side1 => repeat (first | exact (Kd.R_reads' HO706.out).2.2 | (with_reducible refine Kd.C_alloc ?_ _) | (with_reducible refine Kd.C_drewN ?_ _) | (with_reducible refine Kd.C_drew ?_))); (case side2 => exact (Kd.R_reads' HO706.out).2.1); (case side3 => repeat (first | exact (Kd.C_below HR0.out HB.out) | (with_reducible refine Kd.C_alloc ?_ _) | (with_reducible refine Kd.C_drewN ?_ _) | (with_reducible refine Kd.C_drew ?_))); (case side4 => exact HC0.out); rintro e w' ⟨rfl, ⟨nd, rfl⟩⟩))
         go_ret
         exact ⟨by first | rfl | (simp [errW_none, errW_some] <;> rfl) | (simp [*, errW_none, errW_some] <;> rfl), by repeat (first | (with_reducible first | exact HB.out | apply below_alloc | apply pw_below_drewN | apply below_drew1) | exact HB.out)⟩
        ·replace c29 := Bool.eq_false_iff.mpr c29
         subst c29
         have H1 : (some false) = some r := by rw [if_neg (show ¬ (false = true) by decide)] at H; exact H
         clear H
         have H := H1
         clear H1
         exact absurd ((Option.some.inj H).trans hr_.out) (by simp)
       ·rw [if_neg c27] at H
        have c27b0 : (t707 == 0) = false := beq_eq_false_iff_ne.mpr c27
        have c27b1 : (t707 != 0) = true := bne_iff_ne.mpr c27
        exact absurd ((Option.some.inj H).trans hr_.out) (by simp)
      ·rw [if_neg c25] at H
       have c25b0 : (t697 == 0) = false := beq_eq_false_iff_ne.mpr c25
       have c25b1 : (t697 != 0) = true := bne_iff_ne.mpr c25
       obtain rfl := Option.some.inj H
       obtain ⟨Ao33, co33, eo33⟩ := Kd.R_slice HO_5.out
       subst eo33
       go_wp2
       go_ret
       exact ⟨by first | rfl | (simp [errW_none, errW_some] <;> rfl) | (simp [*, errW_none, errW_some] <;> rfl), by repeat (first | (with_reducible first | exact HB.out | apply below_alloc | apply pw_below_drewN | apply below_drew1) | exact HB.out)⟩
 ·replace c3 := Bool.eq_false_iff.mpr c3
  subst c3
  have H1 : (some false) = some r := by rw [if_neg (show ¬ (false = true) by decide)] at H; exact H
  clear H
  have H := H1
  clear H1
  exact absurd ((Option.some.inj H).trans hr_.out) (by simp)
end Go.Proofs.Yteejpfemaedmkaa.X
