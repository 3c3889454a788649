-- Written by wip/printx.py: the kit's printer with functions proved by hand. Not trusted: Lean checks it.
import Derived.Test.YtepkmbbeaaljlaaX0
import Derived.Test.YtepkmbbeaaljlaaX3
import Derived.Test.YtepkmbbeaaljlaaX5
import Derived.Test.YtepkmbbeaaljlaaX10
namespace Go.Proofs.Ytepkmbbeaaljlaa.X
open Go.RowKit Go.Proofs.YtepkmbbeaaljlaaW.PrintWords Go.Proofs.YtepkmbbeaaljlaaW.PrintLast Go.Proofs.YtepkmbbeaaljlaaW.PrintMore
attribute [local go_sem] max2_int min2_int max_two min_two max_three min_three max_four min_four   -- for this text's walks alone
set_option linter.unusedVariables false
set_option linter.unusedSimpArgs false

attribute [local go_sem] vx_gtr vx_leq vx_geq
/-! ### stratumlaw04_KindNames: function 6 -/
def stratumlaw04_KindNames.j0 : Nat → ByteArray → Int → Bool → Option (Bool)
  | 0, _, _, _ => none
  | k + 1, x0, x1, x19 => if x19 = true then (some false) else ((kind_Of.f x0).bind fun t216 => (if t216 = 0 then ((kind_Name.f x1).bind fun t217 => (if x1 < 1 then (if t217.toList = ([] : List UInt8) then (some true) else (some false)) else (if x1 > 5 then (if t217.toList = ([] : List UInt8) then (some true) else (some false)) else (if t217.toList = ([] : List UInt8) then (some false) else ((kind_Of.f t217).bind fun t218 => (some (t218 == x1))))))) else ((kind_Name.f t216).bind fun t219 => (if t219.toList = x0.toList then ((kind_Name.f x1).bind fun t220 => (if x1 < 1 then (if t220.toList = ([] : List UInt8) then (some true) else (some false)) else (if x1 > 5 then (if t220.toList = ([] : List UInt8) then (some true) else (some false)) else (if t220.toList = ([] : List UInt8) then (some false) else ((kind_Of.f t220).bind fun t221 => (some (t221 == x1))))))) else (some false)))))
def stratumlaw04_KindNames.f (k : Nat) (a0 : ByteArray) (a1 : Int) : Option (Bool) := (stratumlaw04_awake.f k).bind fun t211 => (if t211 = true then ((kind_Of.f a0).bind fun t212 => ((stratumref04_Of.f k a0).bind fun t213 => (if t212 = t213 then ((kind_Name.f a1).bind fun t214 => ((stratumref04_Name.f a1).bind fun t215 => (stratumlaw04_KindNames.j0 k a0 a1 (t214.toList != t215.toList)))) else (stratumlaw04_KindNames.j0 k a0 a1 true)))) else (some false))
theorem stratumlaw04_KindNames.mono_l : ∀ k, (∀ y0 y1 y2, LeO (stratumlaw04_KindNames.j0 k y0 y1 y2) (stratumlaw04_KindNames.j0 (k + 1) y0 y1 y2))
  | 0 => fun _ _ _ r h => by simp [stratumlaw04_KindNames.j0] at h
  | k + 1 => by
    have ih0 := stratumlaw04_KindNames.mono_l k
    · intro y0 y1 y2
      unfold stratumlaw04_KindNames.j0
      repeat' first
      | (with_reducible exact ih0 _ _ _)
      | (with_reducible exact stratumlaw04_awake.mono _)
      | (with_reducible exact stratumref04_Of.mono _ _)
      | (with_reducible exact LeO.refl _)
      | (with_reducible exact LeO.none _)
      | (with_reducible refine LeO.ite ?_ ?_)
      | (with_reducible refine LeO.bind ?_ (fun _ => ?_))
      | exact ih0 _ _ _
      | exact stratumlaw04_awake.mono _
      | exact stratumref04_Of.mono _ _
      | exact LeO.none _
      | refine LeO.ite ?_ ?_
      | refine LeO.bind ?_ (fun _ => ?_)
theorem stratumlaw04_KindNames.mono : ∀ a0 a1 k, LeO (stratumlaw04_KindNames.f k a0 a1) (stratumlaw04_KindNames.f (k + 1) a0 a1) := by
  intro a0 a1 k
  have ih0 := stratumlaw04_KindNames.mono_l k
  unfold stratumlaw04_KindNames.f
  repeat' first
      | (with_reducible exact ih0 _ _ _)
      | (with_reducible exact stratumlaw04_awake.mono _)
      | (with_reducible exact stratumref04_Of.mono _ _)
      | (with_reducible exact LeO.refl _)
      | (with_reducible exact LeO.none _)
      | (with_reducible refine LeO.ite ?_ ?_)
      | (with_reducible refine LeO.bind ?_ (fun _ => ?_))
      | exact ih0 _ _ _
      | exact stratumlaw04_awake.mono _
      | exact stratumref04_Of.mono _ _
      | exact LeO.none _
      | refine LeO.ite ?_ ?_
      | refine LeO.bind ?_ (fun _ => ?_)
set_option maxHeartbeats 8000000 in
set_option maxRecDepth 100000 in
theorem stratumlaw04_KindNames.calls (k : Nat) (a0 : ByteArray) (a1 : Int) (r : Bool) (w : World) (h : stratumlaw04_KindNames.f k a0 a1 = some r) :
    Calls Try.prog 6 #[.string a0, .int .i64 a1] w fun e w' => e = .returned (.bool r) ∧ Below w.heap.size w w' := by
  have HB := Aside0.mk (Below.refl w.heap.size w)
  have H : ((stratumlaw04_awake.f k).bind fun t211 => (if t211 = true then ((kind_Of.f a0).bind fun t212 => ((stratumref04_Of.f k a0).bind fun t213 => (if t212 = t213 then ((kind_Name.f a1).bind fun t214 => ((stratumref04_Name.f a1).bind fun t215 => (stratumlaw04_KindNames.j0 k a0 a1 (t214.toList != t215.toList)))) else (stratumlaw04_KindNames.j0 k a0 a1 true)))) else (some false))) = some r := h
  clear h
  replace H := Option.bind_eq_some_iff.mp H
  obtain ⟨t211, A30, H⟩ := H
  replace H : (if t211 = true then ((kind_Of.f a0).bind fun t212 => ((stratumref04_Of.f k a0).bind fun t213 => (if t212 = t213 then ((kind_Name.f a1).bind fun t214 => ((stratumref04_Name.f a1).bind fun t215 => (stratumlaw04_KindNames.j0 k a0 a1 (t214.toList != t215.toList)))) else (stratumlaw04_KindNames.j0 k a0 a1 true)))) else (some false)) = some r := H
  have A3 := Aside0.mk A30
  clear A30
  by_cases c4 : t211 = true
  · subst c4
    have H1 : ((kind_Of.f a0).bind fun t212 => ((stratumref04_Of.f k a0).bind fun t213 => (if t212 = t213 then ((kind_Name.f a1).bind fun t214 => ((stratumref04_Name.f a1).bind fun t215 => (stratumlaw04_KindNames.j0 k a0 a1 (t214.toList != t215.toList)))) else (stratumlaw04_KindNames.j0 k a0 a1 true)))) = some r := by rw [if_pos rfl] at H; exact H
    clear H
    have H := H1
    clear H1
    have HC5 := Aside0.mk H
    clear H
    go_enter Try.func6, Try.ntmps6
    go_upto_region 3 with (first | ((with_reducible refine gate_callee (f := 9) rfl ?_); refine goesL_ (some 6) rfl rfl Try.func9 (by kernel_rfl) rfl #[] rfl (by (try simp only [List.map_toArray, List.map_cons, List.map_nil]); first | done | rfl | (simp only [List.length_drop, List.length_take]; rfl)) ?_; (with_reducible refine (stratumlaw04_awake.calls k  true _ A3.out).mono ?_); rintro e w6 ⟨rfl, hb⟩; refine ⟨_, rfl, ?_⟩; have n0_ := Aside0.mk (below_step (by repeat (first | (with_reducible first | exact HB.out | apply below_alloc | apply pw_below_drewN | apply below_drew1) | exact HB.out)) hb); clear HB; have HB := n0_; clear n0_; (try clear hb); (try clear hb2); (try clear hk); (try clear hi)))
    (try simp only [Act.put, List.setIfInBounds_toArray, List.set_cons_zero, List.set_cons_succ])
    go_cut [19] (fun v19 wc => ∃ (kq : Nat) (x19_4 : Bool), v19 = .bool x19_4 ∧ Aside0 (stratumlaw04_KindNames.j0 kq a0 a1 x19_4 = some r) ∧ Aside0 (kq ≤ k) ∧ Aside0 (Below w.heap.size w wc))
    case first =>
      have H := HC5.out
      clear HC5
      replace H := Option.bind_eq_some_iff.mp H
      obtain ⟨t212, A70, H⟩ := H
      replace H : ((stratumref04_Of.f k a0).bind fun t213 => (if t212 = t213 then ((kind_Name.f a1).bind fun t214 => ((stratumref04_Name.f a1).bind fun t215 => (stratumlaw04_KindNames.j0 k a0 a1 (t214.toList != t215.toList)))) else (stratumlaw04_KindNames.j0 k a0 a1 true))) = some r := H
      have A7 := Aside0.mk A70
      clear A70
      replace H := Option.bind_eq_some_iff.mp H
      obtain ⟨t213, A80, H⟩ := H
      replace H : (if t212 = t213 then ((kind_Name.f a1).bind fun t214 => ((stratumref04_Name.f a1).bind fun t215 => (stratumlaw04_KindNames.j0 k a0 a1 (t214.toList != t215.toList)))) else (stratumlaw04_KindNames.j0 k a0 a1 true)) = some r := H
      have A8 := Aside0.mk A80
      clear A80
      by_cases c9 : t212 = t213
      · rw [if_pos c9] at H
        have c9b0 : (t212 == t213) = true := beq_iff_eq.mpr c9
        have c9b1 : (t212 != t213) = false := bne_eq_false_iff_eq.mpr c9
        clear c9
        (first | rw [c9b0] | (simp only [i64_w, i32_w]; rw [c9b0]) | skip)
        replace H := Option.bind_eq_some_iff.mp H
        obtain ⟨t214, A100, H⟩ := H
        replace H : ((stratumref04_Name.f a1).bind fun t215 => (stratumlaw04_KindNames.j0 k a0 a1 (t214.toList != t215.toList))) = some r := H
        have A10 := Aside0.mk A100
        clear A100
        replace H := Option.bind_eq_some_iff.mp H
        obtain ⟨t215, A110, H⟩ := H
        replace H : (stratumlaw04_KindNames.j0 k a0 a1 (t214.toList != t215.toList)) = some r := H
        have A11 := Aside0.mk A110
        clear A110
        have H' := Aside0.mk H
        clear H
        go_wp2_with (first | ((with_reducible refine gate_callee (f := 14) rfl ?_); refine goesL_ (some 9) rfl rfl Try.func14 (by kernel_rfl) rfl #[.string a0] rfl (by (try simp only [List.map_toArray, List.map_cons, List.map_nil]); first | done | rfl | (simp only [List.length_drop, List.length_take]; rfl)) ?_; (with_reducible refine (kind_Of.calls a0 t212 _ A7.out).mono ?_); rintro e w12 ⟨rfl, hb⟩; refine ⟨_, rfl, ?_⟩; have n0_ := Aside0.mk (below_step (by repeat (first | (with_reducible first | exact HB.out | apply below_alloc | apply pw_below_drewN | apply below_drew1) | exact HB.out)) hb); clear HB; have HB := n0_; clear n0_; (try clear hb); (try clear hb2); (try clear hk); (try clear hi)) | ((with_reducible refine gate_callee (f := 15) rfl ?_); refine goesL_ (some 11) rfl rfl Try.func15 (by kernel_rfl) rfl #[.string a0] rfl (by (try simp only [List.map_toArray, List.map_cons, List.map_nil]); first | done | rfl | (simp only [List.length_drop, List.length_take]; rfl)) ?_; (with_reducible refine (stratumref04_Of.calls k a0 t213 _ A8.out).mono ?_); rintro e w' ⟨rfl, ⟨nd, rfl⟩⟩; refine ⟨_, rfl, ?_⟩) | (go_at_call 16; (with_reducible refine (kind_Name.calls a1 t214 _ A10.out).mono ?_); rintro e w13 ⟨rfl, hb⟩; have n0_ := Aside0.mk (below_step (by repeat (first | (with_reducible first | exact HB.out | apply below_alloc | apply pw_below_drewN | apply below_drew1) | exact HB.out)) hb); clear HB; have HB := n0_; clear n0_; (try clear hb); (try clear hb2); (try clear hk); (try clear hi)) | (go_at_call 17; (with_reducible refine (stratumref04_Name.calls a1 t215 _ A11.out).mono ?_); rintro e w' ⟨rfl, ⟨nd, rfl⟩⟩))
        go_meet
        case rel => exact ⟨_, ((t214.toList != t215.toList)), (by first | rfl | (simp; done) | (simp [*]; done)), H', ⟨by first | omega | exact Nat.le_refl _⟩, ⟨by repeat (first | (with_reducible first | exact HB.out | apply below_alloc | apply pw_below_drewN | apply below_drew1) | exact HB.out)⟩⟩
      · rw [if_neg c9] at H
        have c9b0 : (t212 == t213) = false := beq_eq_false_iff_ne.mpr c9
        have c9b1 : (t212 != t213) = true := bne_iff_ne.mpr c9
        (first | rw [c9b0] | (simp only [i64_w, i32_w]; rw [c9b0]) | skip)
        have H' := Aside0.mk H
        clear H
        go_wp2_with (first | ((with_reducible refine gate_callee (f := 14) rfl ?_); refine goesL_ (some 9) rfl rfl Try.func14 (by kernel_rfl) rfl #[.string a0] rfl (by (try simp only [List.map_toArray, List.map_cons, List.map_nil]); first | done | rfl | (simp only [List.length_drop, List.length_take]; rfl)) ?_; (with_reducible refine (kind_Of.calls a0 t212 _ A7.out).mono ?_); rintro e w14 ⟨rfl, hb⟩; refine ⟨_, rfl, ?_⟩; have n0_ := Aside0.mk (below_step (by repeat (first | (with_reducible first | exact HB.out | apply below_alloc | apply pw_below_drewN | apply below_drew1) | exact HB.out)) hb); clear HB; have HB := n0_; clear n0_; (try clear hb); (try clear hb2); (try clear hk); (try clear hi)) | ((with_reducible refine gate_callee (f := 15) rfl ?_); refine goesL_ (some 11) rfl rfl Try.func15 (by kernel_rfl) rfl #[.string a0] rfl (by (try simp only [List.map_toArray, List.map_cons, List.map_nil]); first | done | rfl | (simp only [List.length_drop, List.length_take]; rfl)) ?_; (with_reducible refine (stratumref04_Of.calls k a0 t213 _ A8.out).mono ?_); rintro e w' ⟨rfl, ⟨nd, rfl⟩⟩; refine ⟨_, rfl, ?_⟩))
        go_meet
        case rel => exact ⟨_, (true), (by first | rfl | (simp; done) | (simp [*]; done)), H', ⟨by first | omega | exact Nat.le_refl _⟩, ⟨by repeat (first | (with_reducible first | exact HB.out | apply below_alloc | apply pw_below_drewN | apply below_drew1) | exact HB.out)⟩⟩
    case rest =>
      clear HC5
      try clear c1
      try clear p2
      try clear c4
      try clear c6
      try clear c9
      try clear c9b0
      try clear c9b1
      try clear c14
      obtain ⟨kq, x19_4, rfl, HA, HJ4, HB⟩ := hcut
      cases kq with
      | zero => exact absurd HA.out (by simp [stratumlaw04_KindNames.j0])
      | succ kj4 =>
        have H := HA.out
        clear HA
        simp only [stratumlaw04_KindNames.j0] at H
        by_cases c15 : x19_4 = true
        · subst c15
          have H1 : (some false) = some r := by rw [if_pos rfl] at H; exact H
          clear H
          have H := H1
          clear H1
          obtain rfl := Option.some.inj H
          go_wp2
          go_ret
          exact ⟨by first | rfl | (simp [errW_none, errW_some] <;> rfl) | (simp [*, errW_none, errW_some] <;> rfl), by repeat (first | (with_reducible first | exact HB.out | apply below_alloc | apply pw_below_drewN | apply below_drew1) | exact HB.out)⟩
        · replace c15 := Bool.eq_false_iff.mpr c15
          subst c15
          have H1 : ((kind_Of.f a0).bind fun t216 => (if t216 = 0 then ((kind_Name.f a1).bind fun t217 => (if a1 < 1 then (if t217.toList = ([] : List UInt8) then (some true) else (some false)) else (if a1 > 5 then (if t217.toList = ([] : List UInt8) then (some true) else (some false)) else (if t217.toList = ([] : List UInt8) then (some false) else ((kind_Of.f t217).bind fun t218 => (some (t218 == a1))))))) else ((kind_Name.f t216).bind fun t219 => (if t219.toList = a0.toList then ((kind_Name.f a1).bind fun t220 => (if a1 < 1 then (if t220.toList = ([] : List UInt8) then (some true) else (some false)) else (if a1 > 5 then (if t220.toList = ([] : List UInt8) then (some true) else (some false)) else (if t220.toList = ([] : List UInt8) then (some false) else ((kind_Of.f t220).bind fun t221 => (some (t221 == a1))))))) else (some false))))) = some r := by rw [if_neg (show ¬ (false = true) by decide)] at H; exact H
          clear H
          have H := H1
          clear H1
          replace H := Option.bind_eq_some_iff.mp H
          obtain ⟨t216, A160, H⟩ := H
          replace H : (if t216 = 0 then ((kind_Name.f a1).bind fun t217 => (if a1 < 1 then (if t217.toList = ([] : List UInt8) then (some true) else (some false)) else (if a1 > 5 then (if t217.toList = ([] : List UInt8) then (some true) else (some false)) else (if t217.toList = ([] : List UInt8) then (some false) else ((kind_Of.f t217).bind fun t218 => (some (t218 == a1))))))) else ((kind_Name.f t216).bind fun t219 => (if t219.toList = a0.toList then ((kind_Name.f a1).bind fun t220 => (if a1 < 1 then (if t220.toList = ([] : List UInt8) then (some true) else (some false)) else (if a1 > 5 then (if t220.toList = ([] : List UInt8) then (some true) else (some false)) else (if t220.toList = ([] : List UInt8) then (some false) else ((kind_Of.f t220).bind fun t221 => (some (t221 == a1))))))) else (some false)))) = some r := H
          have A16 := Aside0.mk A160
          clear A160
          by_cases c17 : t216 = 0
          · rw [if_pos c17] at H
            have c17b0 : (t216 == 0) = true := beq_iff_eq.mpr c17
            have c17b1 : (t216 != 0) = false := bne_eq_false_iff_eq.mpr c17
            clear c17
            replace H := Option.bind_eq_some_iff.mp H
            obtain ⟨t217, A180, H⟩ := H
            replace H : (if a1 < 1 then (if t217.toList = ([] : List UInt8) then (some true) else (some false)) else (if a1 > 5 then (if t217.toList = ([] : List UInt8) then (some true) else (some false)) else (if t217.toList = ([] : List UInt8) then (some false) else ((kind_Of.f t217).bind fun t218 => (some (t218 == a1)))))) = some r := H
            have A18 := Aside0.mk A180
            clear A180
            by_cases c19 : a1 < 1
            · rw [if_pos c19] at H
              have c19b0 : decide (a1 < 1) = true := decide_eq_true c19
              clear c19
              by_cases c20 : t217.toList = ([] : List UInt8)
              · rw [if_pos c20] at H
                (try (have c20b0 : t217.toList.isEmpty = true := by simpa using c20))
                have c20b1 : (t217.toList == ([] : List UInt8)) = true := beq_iff_eq.mpr c20
                have c20b2 : (t217.toList != ([] : List UInt8)) = false := bne_eq_false_iff_eq.mpr c20
                clear c20
                obtain rfl := Option.some.inj H
                go_wp2_with (first | ((with_reducible refine gate_callee (f := 14) rfl ?_); refine goesL_ (some 21) rfl rfl Try.func14 (by kernel_rfl) rfl #[.string a0] rfl (by (try simp only [List.map_toArray, List.map_cons, List.map_nil]); first | done | rfl | (simp only [List.length_drop, List.length_take]; rfl)) ?_; (with_reducible refine (kind_Of.calls a0 t216 _ A16.out).mono ?_); rintro e w21 ⟨rfl, hb⟩; refine ⟨_, rfl, ?_⟩; have n0_ := Aside0.mk (below_step (by repeat (first | (with_reducible first | exact HB.out | apply below_alloc | apply pw_below_drewN | apply below_drew1) | exact HB.out)) hb); clear HB; have HB := n0_; clear n0_; (try clear hb); (try clear hb2); (try clear hk); (try clear hi)) | (go_at_call 16; (with_reducible refine (kind_Name.calls a1 t217 _ A18.out).mono ?_); rintro e w22 ⟨rfl, hb⟩; have n0_ := Aside0.mk (below_step (by repeat (first | (with_reducible first | exact HB.out | apply below_alloc | apply pw_below_drewN | apply below_drew1) | exact HB.out)) hb); clear HB; have HB := n0_; clear n0_; (try clear hb); (try clear hb2); (try clear hk); (try clear hi)))
                go_ret
                exact ⟨by first | rfl | (simp [errW_none, errW_some] <;> rfl) | (simp [*, errW_none, errW_some] <;> rfl), by repeat (first | (with_reducible first | exact HB.out | apply below_alloc | apply pw_below_drewN | apply below_drew1) | exact HB.out)⟩
              · rw [if_neg c20] at H
                (try (have c20b0 : t217.toList.isEmpty = false := by simpa using c20))
                have c20b1 : (t217.toList == ([] : List UInt8)) = false := beq_eq_false_iff_ne.mpr c20
                have c20b2 : (t217.toList != ([] : List UInt8)) = true := bne_iff_ne.mpr c20
                obtain rfl := Option.some.inj H
                go_wp2_with (first | ((with_reducible refine gate_callee (f := 14) rfl ?_); refine goesL_ (some 21) rfl rfl Try.func14 (by kernel_rfl) rfl #[.string a0] rfl (by (try simp only [List.map_toArray, List.map_cons, List.map_nil]); first | done | rfl | (simp only [List.length_drop, List.length_take]; rfl)) ?_; (with_reducible refine (kind_Of.calls a0 t216 _ A16.out).mono ?_); rintro e w23 ⟨rfl, hb⟩; refine ⟨_, rfl, ?_⟩; have n0_ := Aside0.mk (below_step (by repeat (first | (with_reducible first | exact HB.out | apply below_alloc | apply pw_below_drewN | apply below_drew1) | exact HB.out)) hb); clear HB; have HB := n0_; clear n0_; (try clear hb); (try clear hb2); (try clear hk); (try clear hi)) | (go_at_call 16; (with_reducible refine (kind_Name.calls a1 t217 _ A18.out).mono ?_); rintro e w24 ⟨rfl, hb⟩; have n0_ := Aside0.mk (below_step (by repeat (first | (with_reducible first | exact HB.out | apply below_alloc | apply pw_below_drewN | apply below_drew1) | exact HB.out)) hb); clear HB; have HB := n0_; clear n0_; (try clear hb); (try clear hb2); (try clear hk); (try clear hi)))
                go_ret
                exact ⟨by first | rfl | (simp [errW_none, errW_some] <;> rfl) | (simp [*, errW_none, errW_some] <;> rfl), by repeat (first | (with_reducible first | exact HB.out | apply below_alloc | apply pw_below_drewN | apply below_drew1) | exact HB.out)⟩
            · rw [if_neg c19] at H
              have c19b0 : decide (a1 < 1) = false := decide_eq_false c19
              clear c19
              by_cases c25 : a1 > 5
              · rw [if_pos c25] at H
                have c25b0 : decide (5 < a1) = true := decide_eq_true c25
                clear c25
                by_cases c26 : t217.toList = ([] : List UInt8)
                · rw [if_pos c26] at H
                  (try (have c26b0 : t217.toList.isEmpty = true := by simpa using c26))
                  have c26b1 : (t217.toList == ([] : List UInt8)) = true := beq_iff_eq.mpr c26
                  have c26b2 : (t217.toList != ([] : List UInt8)) = false := bne_eq_false_iff_eq.mpr c26
                  clear c26
                  obtain rfl := Option.some.inj H
                  go_wp2_with (first | ((with_reducible refine gate_callee (f := 14) rfl ?_); refine goesL_ (some 21) rfl rfl Try.func14 (by kernel_rfl) rfl #[.string a0] rfl (by (try simp only [List.map_toArray, List.map_cons, List.map_nil]); first | done | rfl | (simp only [List.length_drop, List.length_take]; rfl)) ?_; (with_reducible refine (kind_Of.calls a0 t216 _ A16.out).mono ?_); rintro e w27 ⟨rfl, hb⟩; refine ⟨_, rfl, ?_⟩; have n0_ := Aside0.mk (below_step (by repeat (first | (with_reducible first | exact HB.out | apply below_alloc | apply pw_below_drewN | apply below_drew1) | exact HB.out)) hb); clear HB; have HB := n0_; clear n0_; (try clear hb); (try clear hb2); (try clear hk); (try clear hi)) | (go_at_call 16; (with_reducible refine (kind_Name.calls a1 t217 _ A18.out).mono ?_); rintro e w28 ⟨rfl, hb⟩; have n0_ := Aside0.mk (below_step (by repeat (first | (with_reducible first | exact HB.out | apply below_alloc | apply pw_below_drewN | apply below_drew1) | exact HB.out)) hb); clear HB; have HB := n0_; clear n0_; (try clear hb); (try clear hb2); (try clear hk); (try clear hi)))
                  go_ret
                  exact ⟨by first | rfl | (simp [errW_none, errW_some] <;> rfl) | (simp [*, errW_none, errW_some] <;> rfl), by repeat (first | (with_reducible first | exact HB.out | apply below_alloc | apply pw_below_drewN | apply below_drew1) | exact HB.out)⟩
                · rw [if_neg c26] at H
                  (try (have c26b0 : t217.toList.isEmpty = false := by simpa using c26))
                  have c26b1 : (t217.toList == ([] : List UInt8)) = false := beq_eq_false_iff_ne.mpr c26
                  have c26b2 : (t217.toList != ([] : List UInt8)) = true := bne_iff_ne.mpr c26
                  obtain rfl := Option.some.inj H
                  go_wp2_with (first | ((with_reducible refine gate_callee (f := 14) rfl ?_); refine goesL_ (some 21) rfl rfl Try.func14 (by kernel_rfl) rfl #[.string a0] rfl (by (try simp only [List.map_toArray, List.map_cons, List.map_nil]); first | done | rfl | (simp only [List.length_drop, List.length_take]; rfl)) ?_; (with_reducible refine (kind_Of.calls a0 t216 _ A16.out).mono ?_); rintro e w29 ⟨rfl, hb⟩; refine ⟨_, rfl, ?_⟩; have n0_ := Aside0.mk (below_step (by repeat (first | (with_reducible first | exact HB.out | apply below_alloc | apply pw_below_drewN | apply below_drew1) | exact HB.out)) hb); clear HB; have HB := n0_; clear n0_; (try clear hb); (try clear hb2); (try clear hk); (try clear hi)) | (go_at_call 16; (with_reducible refine (kind_Name.calls a1 t217 _ A18.out).mono ?_); rintro e w30 ⟨rfl, hb⟩; have n0_ := Aside0.mk (below_step (by repeat (first | (with_reducible first | exact HB.out | apply below_alloc | apply pw_below_drewN | apply below_drew1) | exact HB.out)) hb); clear HB; have HB := n0_; clear n0_; (try clear hb); (try clear hb2); (try clear hk); (try clear hi)))
                  go_ret
                  exact ⟨by first | rfl | (simp [errW_none, errW_some] <;> rfl) | (simp [*, errW_none, errW_some] <;> rfl), by repeat (first | (with_reducible first | exact HB.out | apply below_alloc | apply pw_below_drewN | apply below_drew1) | exact HB.out)⟩
              · rw [if_neg c25] at H
                have c25b0 : decide (5 < a1) = false := decide_eq_false c25
                clear c25
                by_cases c31 : t217.toList = ([] : List UInt8)
                · rw [if_pos c31] at H
                  (try (have c31b0 : t217.toList.isEmpty = true := by simpa using c31))
                  have c31b1 : (t217.toList == ([] : List UInt8)) = true := beq_iff_eq.mpr c31
                  have c31b2 : (t217.toList != ([] : List UInt8)) = false := bne_eq_false_iff_eq.mpr c31
                  clear c31
                  obtain rfl := Option.some.inj H
                  go_wp2_with (first | ((with_reducible refine gate_callee (f := 14) rfl ?_); refine goesL_ (some 21) rfl rfl Try.func14 (by kernel_rfl) rfl #[.string a0] rfl (by (try simp only [List.map_toArray, List.map_cons, List.map_nil]); first | done | rfl | (simp only [List.length_drop, List.length_take]; rfl)) ?_; (with_reducible refine (kind_Of.calls a0 t216 _ A16.out).mono ?_); rintro e w32 ⟨rfl, hb⟩; refine ⟨_, rfl, ?_⟩; have n0_ := Aside0.mk (below_step (by repeat (first | (with_reducible first | exact HB.out | apply below_alloc | apply pw_below_drewN | apply below_drew1) | exact HB.out)) hb); clear HB; have HB := n0_; clear n0_; (try clear hb); (try clear hb2); (try clear hk); (try clear hi)) | (go_at_call 16; (with_reducible refine (kind_Name.calls a1 t217 _ A18.out).mono ?_); rintro e w33 ⟨rfl, hb⟩; have n0_ := Aside0.mk (below_step (by repeat (first | (with_reducible first | exact HB.out | apply below_alloc | apply pw_below_drewN | apply below_drew1) | exact HB.out)) hb); clear HB; have HB := n0_; clear n0_; (try clear hb); (try clear hb2); (try clear hk); (try clear hi)))
                  go_ret
                  exact ⟨by first | rfl | (simp [errW_none, errW_some] <;> rfl) | (simp [*, errW_none, errW_some] <;> rfl), by repeat (first | (with_reducible first | exact HB.out | apply below_alloc | apply pw_below_drewN | apply below_drew1) | exact HB.out)⟩
                · rw [if_neg c31] at H
                  (try (have c31b0 : t217.toList.isEmpty = false := by simpa using c31))
                  have c31b1 : (t217.toList == ([] : List UInt8)) = false := beq_eq_false_iff_ne.mpr c31
                  have c31b2 : (t217.toList != ([] : List UInt8)) = true := bne_iff_ne.mpr c31
                  replace H := Option.bind_eq_some_iff.mp H
                  obtain ⟨t218, A340, H⟩ := H
                  replace H : (some (t218 == a1)) = some r := H
                  have A34 := Aside0.mk A340
                  clear A340
                  obtain rfl := Option.some.inj H
                  go_wp2_with (first | ((with_reducible refine gate_callee (f := 14) rfl ?_); refine goesL_ (some 21) rfl rfl Try.func14 (by kernel_rfl) rfl #[.string a0] rfl (by (try simp only [List.map_toArray, List.map_cons, List.map_nil]); first | done | rfl | (simp only [List.length_drop, List.length_take]; rfl)) ?_; (with_reducible refine (kind_Of.calls a0 t216 _ A16.out).mono ?_); rintro e w35 ⟨rfl, hb⟩; refine ⟨_, rfl, ?_⟩; have n0_ := Aside0.mk (below_step (by repeat (first | (with_reducible first | exact HB.out | apply below_alloc | apply pw_below_drewN | apply below_drew1) | exact HB.out)) hb); clear HB; have HB := n0_; clear n0_; (try clear hb); (try clear hb2); (try clear hk); (try clear hi)) | (go_at_call 16; (with_reducible refine (kind_Name.calls a1 t217 _ A18.out).mono ?_); rintro e w36 ⟨rfl, hb⟩; have n0_ := Aside0.mk (below_step (by repeat (first | (with_reducible first | exact HB.out | apply below_alloc | apply pw_below_drewN | apply below_drew1) | exact HB.out)) hb); clear HB; have HB := n0_; clear n0_; (try clear hb); (try clear hb2); (try clear hk); (try clear hi)) | (go_at_call 14; (with_reducible refine (kind_Of.calls t217 t218 _ A34.out).mono ?_); rintro e w37 ⟨rfl, hb⟩; have n0_ := Aside0.mk (below_step (by repeat (first | (with_reducible first | exact HB.out | apply below_alloc | apply pw_below_drewN | apply below_drew1) | exact HB.out)) hb); clear HB; have HB := n0_; clear n0_; (try clear hb); (try clear hb2); (try clear hk); (try clear hi)))
                  go_ret
                  exact ⟨by first | rfl | (simp [errW_none, errW_some] <;> rfl) | (simp [*, errW_none, errW_some] <;> rfl), by repeat (first | (with_reducible first | exact HB.out | apply below_alloc | apply pw_below_drewN | apply below_drew1) | exact HB.out)⟩
          · rw [if_neg c17] at H
            have c17b0 : (t216 == 0) = false := beq_eq_false_iff_ne.mpr c17
            have c17b1 : (t216 != 0) = true := bne_iff_ne.mpr c17
            replace H := Option.bind_eq_some_iff.mp H
            obtain ⟨t219, A380, H⟩ := H
            replace H : (if t219.toList = a0.toList then ((kind_Name.f a1).bind fun t220 => (if a1 < 1 then (if t220.toList = ([] : List UInt8) then (some true) else (some false)) else (if a1 > 5 then (if t220.toList = ([] : List UInt8) then (some true) else (some false)) else (if t220.toList = ([] : List UInt8) then (some false) else ((kind_Of.f t220).bind fun t221 => (some (t221 == a1))))))) else (some false)) = some r := H
            have A38 := Aside0.mk A380
            clear A380
            by_cases c39 : t219.toList = a0.toList
            · rw [if_pos c39] at H
              have c39b0 : (t219.toList == a0.toList) = true := beq_iff_eq.mpr c39
              have c39b1 : (t219.toList != a0.toList) = false := bne_eq_false_iff_eq.mpr c39
              clear c39
              replace H := Option.bind_eq_some_iff.mp H
              obtain ⟨t220, A400, H⟩ := H
              replace H : (if a1 < 1 then (if t220.toList = ([] : List UInt8) then (some true) else (some false)) else (if a1 > 5 then (if t220.toList = ([] : List UInt8) then (some true) else (some false)) else (if t220.toList = ([] : List UInt8) then (some false) else ((kind_Of.f t220).bind fun t221 => (some (t221 == a1)))))) = some r := H
              have A40 := Aside0.mk A400
              clear A400
              by_cases c41 : a1 < 1
              · rw [if_pos c41] at H
                have c41b0 : decide (a1 < 1) = true := decide_eq_true c41
                clear c41
                by_cases c42 : t220.toList = ([] : List UInt8)
                · rw [if_pos c42] at H
                  (try (have c42b0 : t220.toList.isEmpty = true := by simpa using c42))
                  have c42b1 : (t220.toList == ([] : List UInt8)) = true := beq_iff_eq.mpr c42
                  have c42b2 : (t220.toList != ([] : List UInt8)) = false := bne_eq_false_iff_eq.mpr c42
                  clear c42
                  obtain rfl := Option.some.inj H
                  go_wp2_with (first | ((with_reducible refine gate_callee (f := 14) rfl ?_); refine goesL_ (some 21) rfl rfl Try.func14 (by kernel_rfl) rfl #[.string a0] rfl (by (try simp only [List.map_toArray, List.map_cons, List.map_nil]); first | done | rfl | (simp only [List.length_drop, List.length_take]; rfl)) ?_; (with_reducible refine (kind_Of.calls a0 t216 _ A16.out).mono ?_); rintro e w43 ⟨rfl, hb⟩; refine ⟨_, rfl, ?_⟩; have n0_ := Aside0.mk (below_step (by repeat (first | (with_reducible first | exact HB.out | apply below_alloc | apply pw_below_drewN | apply below_drew1) | exact HB.out)) hb); clear HB; have HB := n0_; clear n0_; (try clear hb); (try clear hb2); (try clear hk); (try clear hi)) | (go_at_call 16; (with_reducible refine (kind_Name.calls t216 t219 _ A38.out).mono ?_); rintro e w44 ⟨rfl, hb⟩; have n0_ := Aside0.mk (below_step (by repeat (first | (with_reducible first | exact HB.out | apply below_alloc | apply pw_below_drewN | apply below_drew1) | exact HB.out)) hb); clear HB; have HB := n0_; clear n0_; (try clear hb); (try clear hb2); (try clear hk); (try clear hi)) | (go_at_call 16; (with_reducible refine (kind_Name.calls a1 t220 _ A40.out).mono ?_); rintro e w45 ⟨rfl, hb⟩; have n0_ := Aside0.mk (below_step (by repeat (first | (with_reducible first | exact HB.out | apply below_alloc | apply pw_below_drewN | apply below_drew1) | exact HB.out)) hb); clear HB; have HB := n0_; clear n0_; (try clear hb); (try clear hb2); (try clear hk); (try clear hi)))
                  go_ret
                  exact ⟨by first | rfl | (simp [errW_none, errW_some] <;> rfl) | (simp [*, errW_none, errW_some] <;> rfl), by repeat (first | (with_reducible first | exact HB.out | apply below_alloc | apply pw_below_drewN | apply below_drew1) | exact HB.out)⟩
                · rw [if_neg c42] at H
                  (try (have c42b0 : t220.toList.isEmpty = false := by simpa using c42))
                  have c42b1 : (t220.toList == ([] : List UInt8)) = false := beq_eq_false_iff_ne.mpr c42
                  have c42b2 : (t220.toList != ([] : List UInt8)) = true := bne_iff_ne.mpr c42
                  obtain rfl := Option.some.inj H
                  go_wp2_with (first | ((with_reducible refine gate_callee (f := 14) rfl ?_); refine goesL_ (some 21) rfl rfl Try.func14 (by kernel_rfl) rfl #[.string a0] rfl (by (try simp only [List.map_toArray, List.map_cons, List.map_nil]); first | done | rfl | (simp only [List.length_drop, List.length_take]; rfl)) ?_; (with_reducible refine (kind_Of.calls a0 t216 _ A16.out).mono ?_); rintro e w46 ⟨rfl, hb⟩; refine ⟨_, rfl, ?_⟩; have n0_ := Aside0.mk (below_step (by repeat (first | (with_reducible first | exact HB.out | apply below_alloc | apply pw_below_drewN | apply below_drew1) | exact HB.out)) hb); clear HB; have HB := n0_; clear n0_; (try clear hb); (try clear hb2); (try clear hk); (try clear hi)) | (go_at_call 16; (with_reducible refine (kind_Name.calls t216 t219 _ A38.out).mono ?_); rintro e w47 ⟨rfl, hb⟩; have n0_ := Aside0.mk (below_step (by repeat (first | (with_reducible first | exact HB.out | apply below_alloc | apply pw_below_drewN | apply below_drew1) | exact HB.out)) hb); clear HB; have HB := n0_; clear n0_; (try clear hb); (try clear hb2); (try clear hk); (try clear hi)) | (go_at_call 16; (with_reducible refine (kind_Name.calls a1 t220 _ A40.out).mono ?_); rintro e w48 ⟨rfl, hb⟩; have n0_ := Aside0.mk (below_step (by repeat (first | (with_reducible first | exact HB.out | apply below_alloc | apply pw_below_drewN | apply below_drew1) | exact HB.out)) hb); clear HB; have HB := n0_; clear n0_; (try clear hb); (try clear hb2); (try clear hk); (try clear hi)))
                  go_ret
                  exact ⟨by first | rfl | (simp [errW_none, errW_some] <;> rfl) | (simp [*, errW_none, errW_some] <;> rfl), by repeat (first | (with_reducible first | exact HB.out | apply below_alloc | apply pw_below_drewN | apply below_drew1) | exact HB.out)⟩
              · rw [if_neg c41] at H
                have c41b0 : decide (a1 < 1) = false := decide_eq_false c41
                clear c41
                by_cases c49 : a1 > 5
                · rw [if_pos c49] at H
                  have c49b0 : decide (5 < a1) = true := decide_eq_true c49
                  clear c49
                  by_cases c50 : t220.toList = ([] : List UInt8)
                  · rw [if_pos c50] at H
                    (try (have c50b0 : t220.toList.isEmpty = true := by simpa using c50))
                    have c50b1 : (t220.toList == ([] : List UInt8)) = true := beq_iff_eq.mpr c50
                    have c50b2 : (t220.toList != ([] : List UInt8)) = false := bne_eq_false_iff_eq.mpr c50
                    clear c50
                    obtain rfl := Option.some.inj H
                    go_wp2_with (first | ((with_reducible refine gate_callee (f := 14) rfl ?_); refine goesL_ (some 21) rfl rfl Try.func14 (by kernel_rfl) rfl #[.string a0] rfl (by (try simp only [List.map_toArray, List.map_cons, List.map_nil]); first | done | rfl | (simp only [List.length_drop, List.length_take]; rfl)) ?_; (with_reducible refine (kind_Of.calls a0 t216 _ A16.out).mono ?_); rintro e w51 ⟨rfl, hb⟩; refine ⟨_, rfl, ?_⟩; have n0_ := Aside0.mk (below_step (by repeat (first | (with_reducible first | exact HB.out | apply below_alloc | apply pw_below_drewN | apply below_drew1) | exact HB.out)) hb); clear HB; have HB := n0_; clear n0_; (try clear hb); (try clear hb2); (try clear hk); (try clear hi)) | (go_at_call 16; (with_reducible refine (kind_Name.calls t216 t219 _ A38.out).mono ?_); rintro e w52 ⟨rfl, hb⟩; have n0_ := Aside0.mk (below_step (by repeat (first | (with_reducible first | exact HB.out | apply below_alloc | apply pw_below_drewN | apply below_drew1) | exact HB.out)) hb); clear HB; have HB := n0_; clear n0_; (try clear hb); (try clear hb2); (try clear hk); (try clear hi)) | (go_at_call 16; (with_reducible refine (kind_Name.calls a1 t220 _ A40.out).mono ?_); rintro e w53 ⟨rfl, hb⟩; have n0_ := Aside0.mk (below_step (by repeat (first | (with_reducible first | exact HB.out | apply below_alloc | apply pw_below_drewN | apply below_drew1) | exact HB.out)) hb); clear HB; have HB := n0_; clear n0_; (try clear hb); (try clear hb2); (try clear hk); (try clear hi)))
                    go_ret
                    exact ⟨by first | rfl | (simp [errW_none, errW_some] <;> rfl) | (simp [*, errW_none, errW_some] <;> rfl), by repeat (first | (with_reducible first | exact HB.out | apply below_alloc | apply pw_below_drewN | apply below_drew1) | exact HB.out)⟩
                  · rw [if_neg c50] at H
                    (try (have c50b0 : t220.toList.isEmpty = false := by simpa using c50))
                    have c50b1 : (t220.toList == ([] : List UInt8)) = false := beq_eq_false_iff_ne.mpr c50
                    have c50b2 : (t220.toList != ([] : List UInt8)) = true := bne_iff_ne.mpr c50
                    obtain rfl := Option.some.inj H
                    go_wp2_with (first | ((with_reducible refine gate_callee (f := 14) rfl ?_); refine goesL_ (some 21) rfl rfl Try.func14 (by kernel_rfl) rfl #[.string a0] rfl (by (try simp only [List.map_toArray, List.map_cons, List.map_nil]); first | done | rfl | (simp only [List.length_drop, List.length_take]; rfl)) ?_; (with_reducible refine (kind_Of.calls a0 t216 _ A16.out).mono ?_); rintro e w54 ⟨rfl, hb⟩; refine ⟨_, rfl, ?_⟩; have n0_ := Aside0.mk (below_step (by repeat (first | (with_reducible first | exact HB.out | apply below_alloc | apply pw_below_drewN | apply below_drew1) | exact HB.out)) hb); clear HB; have HB := n0_; clear n0_; (try clear hb); (try clear hb2); (try clear hk); (try clear hi)) | (go_at_call 16; (with_reducible refine (kind_Name.calls t216 t219 _ A38.out).mono ?_); rintro e w55 ⟨rfl, hb⟩; have n0_ := Aside0.mk (below_step (by repeat (first | (with_reducible first | exact HB.out | apply below_alloc | apply pw_below_drewN | apply below_drew1) | exact HB.out)) hb); clear HB; have HB := n0_; clear n0_; (try clear hb); (try clear hb2); (try clear hk); (try clear hi)) | (go_at_call 16; (with_reducible refine (kind_Name.calls a1 t220 _ A40.out).mono ?_); rintro e w56 ⟨rfl, hb⟩; have n0_ := Aside0.mk (below_step (by repeat (first | (with_reducible first | exact HB.out | apply below_alloc | apply pw_below_drewN | apply below_drew1) | exact HB.out)) hb); clear HB; have HB := n0_; clear n0_; (try clear hb); (try clear hb2); (try clear hk); (try clear hi)))
                    go_ret
                    exact ⟨by first | rfl | (simp [errW_none, errW_some] <;> rfl) | (simp [*, errW_none, errW_some] <;> rfl), by repeat (first | (with_reducible first | exact HB.out | apply below_alloc | apply pw_below_drewN | apply below_drew1) | exact HB.out)⟩
                · rw [if_neg c49] at H
                  have c49b0 : decide (5 < a1) = false := decide_eq_false c49
                  clear c49
                  by_cases c57 : t220.toList = ([] : List UInt8)
                  · rw [if_pos c57] at H
                    (try (have c57b0 : t220.toList.isEmpty = true := by simpa using c57))
                    have c57b1 : (t220.toList == ([] : List UInt8)) = true := beq_iff_eq.mpr c57
                    have c57b2 : (t220.toList != ([] : List UInt8)) = false := bne_eq_false_iff_eq.mpr c57
                    clear c57
                    obtain rfl := Option.some.inj H
                    go_wp2_with (first | ((with_reducible refine gate_callee (f := 14) rfl ?_); refine goesL_ (some 21) rfl rfl Try.func14 (by kernel_rfl) rfl #[.string a0] rfl (by (try simp only [List.map_toArray, List.map_cons, List.map_nil]); first | done | rfl | (simp only [List.length_drop, List.length_take]; rfl)) ?_; (with_reducible refine (kind_Of.calls a0 t216 _ A16.out).mono ?_); rintro e w58 ⟨rfl, hb⟩; refine ⟨_, rfl, ?_⟩; have n0_ := Aside0.mk (below_step (by repeat (first | (with_reducible first | exact HB.out | apply below_alloc | apply pw_below_drewN | apply below_drew1) | exact HB.out)) hb); clear HB; have HB := n0_; clear n0_; (try clear hb); (try clear hb2); (try clear hk); (try clear hi)) | (go_at_call 16; (with_reducible refine (kind_Name.calls t216 t219 _ A38.out).mono ?_); rintro e w59 ⟨rfl, hb⟩; have n0_ := Aside0.mk (below_step (by repeat (first | (with_reducible first | exact HB.out | apply below_alloc | apply pw_below_drewN | apply below_drew1) | exact HB.out)) hb); clear HB; have HB := n0_; clear n0_; (try clear hb); (try clear hb2); (try clear hk); (try clear hi)) | (go_at_call 16; (with_reducible refine (kind_Name.calls a1 t220 _ A40.out).mono ?_); rintro e w60 ⟨rfl, hb⟩; have n0_ := Aside0.mk (below_step (by repeat (first | (with_reducible first | exact HB.out | apply below_alloc | apply pw_below_drewN | apply below_drew1) | exact HB.out)) hb); clear HB; have HB := n0_; clear n0_; (try clear hb); (try clear hb2); (try clear hk); (try clear hi)))
                    go_ret
                    exact ⟨by first | rfl | (simp [errW_none, errW_some] <;> rfl) | (simp [*, errW_none, errW_some] <;> rfl), by repeat (first | (with_reducible first | exact HB.out | apply below_alloc | apply pw_below_drewN | apply below_drew1) | exact HB.out)⟩
                  · rw [if_neg c57] at H
                    (try (have c57b0 : t220.toList.isEmpty = false := by simpa using c57))
                    have c57b1 : (t220.toList == ([] : List UInt8)) = false := beq_eq_false_iff_ne.mpr c57
                    have c57b2 : (t220.toList != ([] : List UInt8)) = true := bne_iff_ne.mpr c57
                    replace H := Option.bind_eq_some_iff.mp H
                    obtain ⟨t221, A610, H⟩ := H
                    replace H : (some (t221 == a1)) = some r := H
                    have A61 := Aside0.mk A610
                    clear A610
                    obtain rfl := Option.some.inj H
                    go_wp2_with (first | ((with_reducible refine gate_callee (f := 14) rfl ?_); refine goesL_ (some 21) rfl rfl Try.func14 (by kernel_rfl) rfl #[.string a0] rfl (by (try simp only [List.map_toArray, List.map_cons, List.map_nil]); first | done | rfl | (simp only [List.length_drop, List.length_take]; rfl)) ?_; (with_reducible refine (kind_Of.calls a0 t216 _ A16.out).mono ?_); rintro e w62 ⟨rfl, hb⟩; refine ⟨_, rfl, ?_⟩; have n0_ := Aside0.mk (below_step (by repeat (first | (with_reducible first | exact HB.out | apply below_alloc | apply pw_below_drewN | apply below_drew1) | exact HB.out)) hb); clear HB; have HB := n0_; clear n0_; (try clear hb); (try clear hb2); (try clear hk); (try clear hi)) | (go_at_call 16; (with_reducible refine (kind_Name.calls t216 t219 _ A38.out).mono ?_); rintro e w63 ⟨rfl, hb⟩; have n0_ := Aside0.mk (below_step (by repeat (first | (with_reducible first | exact HB.out | apply below_alloc | apply pw_below_drewN | apply below_drew1) | exact HB.out)) hb); clear HB; have HB := n0_; clear n0_; (try clear hb); (try clear hb2); (try clear hk); (try clear hi)) | (go_at_call 16; (with_reducible refine (kind_Name.calls a1 t220 _ A40.out).mono ?_); rintro e w64 ⟨rfl, hb⟩; have n0_ := Aside0.mk (below_step (by repeat (first | (with_reducible first | exact HB.out | apply below_alloc | apply pw_below_drewN | apply below_drew1) | exact HB.out)) hb); clear HB; have HB := n0_; clear n0_; (try clear hb); (try clear hb2); (try clear hk); (try clear hi)) | (go_at_call 14; (with_reducible refine (kind_Of.calls t220 t221 _ A61.out).mono ?_); rintro e w65 ⟨rfl, hb⟩; have n0_ := Aside0.mk (below_step (by repeat (first | (with_reducible first | exact HB.out | apply below_alloc | apply pw_below_drewN | apply below_drew1) | exact HB.out)) hb); clear HB; have HB := n0_; clear n0_; (try clear hb); (try clear hb2); (try clear hk); (try clear hi)))
                    go_ret
                    exact ⟨by first | rfl | (simp [errW_none, errW_some] <;> rfl) | (simp [*, errW_none, errW_some] <;> rfl), by repeat (first | (with_reducible first | exact HB.out | apply below_alloc | apply pw_below_drewN | apply below_drew1) | exact HB.out)⟩
            · rw [if_neg c39] at H
              have c39b0 : (t219.toList == a0.toList) = false := beq_eq_false_iff_ne.mpr c39
              have c39b1 : (t219.toList != a0.toList) = true := bne_iff_ne.mpr c39
              obtain rfl := Option.some.inj H
              go_wp2_with (first | ((with_reducible refine gate_callee (f := 14) rfl ?_); refine goesL_ (some 21) rfl rfl Try.func14 (by kernel_rfl) rfl #[.string a0] rfl (by (try simp only [List.map_toArray, List.map_cons, List.map_nil]); first | done | rfl | (simp only [List.length_drop, List.length_take]; rfl)) ?_; (with_reducible refine (kind_Of.calls a0 t216 _ A16.out).mono ?_); rintro e w66 ⟨rfl, hb⟩; refine ⟨_, rfl, ?_⟩; have n0_ := Aside0.mk (below_step (by repeat (first | (with_reducible first | exact HB.out | apply below_alloc | apply pw_below_drewN | apply below_drew1) | exact HB.out)) hb); clear HB; have HB := n0_; clear n0_; (try clear hb); (try clear hb2); (try clear hk); (try clear hi)) | (go_at_call 16; (with_reducible refine (kind_Name.calls t216 t219 _ A38.out).mono ?_); rintro e w67 ⟨rfl, hb⟩; have n0_ := Aside0.mk (below_step (by repeat (first | (with_reducible first | exact HB.out | apply below_alloc | apply pw_below_drewN | apply below_drew1) | exact HB.out)) hb); clear HB; have HB := n0_; clear n0_; (try clear hb); (try clear hb2); (try clear hk); (try clear hi)))
              go_ret
              exact ⟨by first | rfl | (simp [errW_none, errW_some] <;> rfl) | (simp [*, errW_none, errW_some] <;> rfl), by repeat (first | (with_reducible first | exact HB.out | apply below_alloc | apply pw_below_drewN | apply below_drew1) | exact HB.out)⟩
  · replace c4 := Bool.eq_false_iff.mpr c4
    subst c4
    have H1 : (some false) = some r := by rw [if_neg (show ¬ (false = true) by decide)] at H; exact H
    clear H
    have H := H1
    clear H1
    obtain rfl := Option.some.inj H
    go_enter Try.func6, Try.ntmps6
    go_wp2_with (first | ((with_reducible refine gate_callee (f := 9) rfl ?_); refine goesL_ (some 6) rfl rfl Try.func9 (by kernel_rfl) rfl #[] rfl (by (try simp only [List.map_toArray, List.map_cons, List.map_nil]); first | done | rfl | (simp only [List.length_drop, List.length_take]; rfl)) ?_; (with_reducible refine (stratumlaw04_awake.calls k  false _ A3.out).mono ?_); rintro e w68 ⟨rfl, hb⟩; refine ⟨_, rfl, ?_⟩; have n0_ := Aside0.mk (below_step (by repeat (first | (with_reducible first | exact HB.out | apply below_alloc | apply pw_below_drewN | apply below_drew1) | exact HB.out)) hb); clear HB; have HB := n0_; clear n0_; (try clear hb); (try clear hb2); (try clear hk); (try clear hi)))
    go_ret
    exact ⟨by first | rfl | (simp [errW_none, errW_some] <;> rfl) | (simp [*, errW_none, errW_some] <;> rfl), by repeat (first | (with_reducible first | exact HB.out | apply below_alloc | apply pw_below_drewN | apply below_drew1) | exact HB.out)⟩

/-- THE ONE PURE STATEMENT of stratumlaw04_KindNames: yours. -/
def stratumlaw04_KindNames.Pure : Prop := ∀ (a0 : ByteArray) (a1 : Int), a0.size ≤ 140737488351232 → (Lit.int .i64 a1).wf = true → ∃ k, stratumlaw04_KindNames.f k a0 a1 = some true
theorem stratumlaw04_KindNames.walk (P : stratumlaw04_KindNames.Pure) (a0 : ByteArray) (a1 : Int) (w : World) (w0 : a0.size ≤ 140737488351232) (w1 : (Lit.int .i64 a1).wf = true) :
    Calls Try.prog 6 #[.string a0, .int .i64 a1] w fun e w' => e = .returned (.bool true) ∧ Below w.heap.size w w' := by
  obtain ⟨k, h⟩ := P a0 a1 w0 w1
  refine (stratumlaw04_KindNames.calls k a0 a1 true w h).mono ?_
  rintro e w' ⟨rfl, hd⟩
  exact ⟨rfl, hd⟩

/-! ### stratumlaw04_KindValid: function 7 -/
def stratumlaw04_KindValid.j0 : Nat → Int → Int → ByteArray → Bool → Option (Bool)
  | 0, _, _, _, _ => none
  | k + 1, x0, x1, x2, x71 => if x71 = true then (some false) else ((kind_Name.f x0).bind fun t235 => (if t235.toList = ([] : List UInt8) then ((kind_Valid.f k x0 x1 x2).bind fun t236 => (some (!t236))) else (some true)))
def stratumlaw04_KindValid.f (k : Nat) (a0 : Int) (a1 : Int) (a2 : ByteArray) : Option (Bool) := (stratumlaw04_awake.f k).bind fun t222 => (if t222 = true then ((kind_Uint.f).bind fun t223 => ((kind_Valid.f k t223 a1 a2).bind fun t224 => ((kind_Int.f).bind fun t225 => ((kind_Valid.f k t225 a1 a2).bind fun t226 => ((kind_Bool.f).bind fun t227 => ((kind_Valid.f k t227 a1 a2).bind fun t228 => ((kind_Text.f).bind fun t229 => ((kind_Valid.f k t229 a1 a2).bind fun t230 => ((kind_Bytes.f).bind fun t231 => ((kind_Valid.f k t231 a1 a2).bind fun t232 => (if (t224 != a2.toList.isEmpty) = true then (stratumlaw04_KindValid.j0 k a0 a1 a2 true) else (if (t226 != t224) = true then (stratumlaw04_KindValid.j0 k a0 a1 a2 true) else (if t224 = true then (if (t228 != (decide (a1 < 2))) = true then (stratumlaw04_KindValid.j0 k a0 a1 a2 true) else (if (t232 != (a1 == 0)) = true then (stratumlaw04_KindValid.j0 k a0 a1 a2 true) else (if t232 = true then ((utf_Valid.f k a2).bind fun t233 => (stratumlaw04_KindValid.j0 k a0 a1 a2 (t230 != t233))) else (stratumlaw04_KindValid.j0 k a0 a1 a2 (t230 != false))))) else (if t228 = true then (stratumlaw04_KindValid.j0 k a0 a1 a2 true) else (if (t232 != (a1 == 0)) = true then (stratumlaw04_KindValid.j0 k a0 a1 a2 true) else (if t232 = true then ((utf_Valid.f k a2).bind fun t234 => (stratumlaw04_KindValid.j0 k a0 a1 a2 (t230 != t234))) else (stratumlaw04_KindValid.j0 k a0 a1 a2 (t230 != false)))))))))))))))))) else (some false))
theorem stratumlaw04_KindValid.mono_l : ∀ k, (∀ y0 y1 y2 y3, LeO (stratumlaw04_KindValid.j0 k y0 y1 y2 y3) (stratumlaw04_KindValid.j0 (k + 1) y0 y1 y2 y3))
  | 0 => fun _ _ _ _ r h => by simp [stratumlaw04_KindValid.j0] at h
  | k + 1 => by
    have ih0 := stratumlaw04_KindValid.mono_l k
    · intro y0 y1 y2 y3
      unfold stratumlaw04_KindValid.j0
      repeat' first
      | (with_reducible exact ih0 _ _ _ _)
      | (with_reducible exact kind_Valid.mono _ _ _ _)
      | (with_reducible exact stratumlaw04_awake.mono _)
      | (with_reducible exact utf_Valid.mono _ _)
      | (with_reducible exact LeO.refl _)
      | (with_reducible exact LeO.none _)
      | (with_reducible refine LeO.ite ?_ ?_)
      | (with_reducible refine LeO.bind ?_ (fun _ => ?_))
      | exact ih0 _ _ _ _
      | exact kind_Valid.mono _ _ _ _
      | exact stratumlaw04_awake.mono _
      | exact utf_Valid.mono _ _
      | exact LeO.none _
      | refine LeO.ite ?_ ?_
      | refine LeO.bind ?_ (fun _ => ?_)
theorem stratumlaw04_KindValid.mono : ∀ a0 a1 a2 k, LeO (stratumlaw04_KindValid.f k a0 a1 a2) (stratumlaw04_KindValid.f (k + 1) a0 a1 a2) := by
  intro a0 a1 a2 k
  have ih0 := stratumlaw04_KindValid.mono_l k
  unfold stratumlaw04_KindValid.f
  repeat' first
      | (with_reducible exact ih0 _ _ _ _)
      | (with_reducible exact kind_Valid.mono _ _ _ _)
      | (with_reducible exact stratumlaw04_awake.mono _)
      | (with_reducible exact utf_Valid.mono _ _)
      | (with_reducible exact LeO.refl _)
      | (with_reducible exact LeO.none _)
      | (with_reducible refine LeO.ite ?_ ?_)
      | (with_reducible refine LeO.bind ?_ (fun _ => ?_))
      | exact ih0 _ _ _ _
      | exact kind_Valid.mono _ _ _ _
      | exact stratumlaw04_awake.mono _
      | exact utf_Valid.mono _ _
      | exact LeO.none _
      | refine LeO.ite ?_ ?_
      | refine LeO.bind ?_ (fun _ => ?_)
set_option maxHeartbeats 8000000 in
set_option maxRecDepth 100000 in
theorem stratumlaw04_KindValid.calls (k : Nat) (a0 : Int) (a1 : Int) (a2 : ByteArray) (r : Bool) (w : World) (h : stratumlaw04_KindValid.f k a0 a1 a2 = some r) :
    Calls Try.prog 7 #[.int .i64 a0, .int .u64 a1, .string a2] w fun e w' => e = .returned (.bool r) ∧ Below w.heap.size w w' := by
  have hu27 := Try.underlying27
  have HB := Aside0.mk (Below.refl w.heap.size w)
  have H : ((stratumlaw04_awake.f k).bind fun t222 => (if t222 = true then ((kind_Uint.f).bind fun t223 => ((kind_Valid.f k t223 a1 a2).bind fun t224 => ((kind_Int.f).bind fun t225 => ((kind_Valid.f k t225 a1 a2).bind fun t226 => ((kind_Bool.f).bind fun t227 => ((kind_Valid.f k t227 a1 a2).bind fun t228 => ((kind_Text.f).bind fun t229 => ((kind_Valid.f k t229 a1 a2).bind fun t230 => ((kind_Bytes.f).bind fun t231 => ((kind_Valid.f k t231 a1 a2).bind fun t232 => (if (t224 != a2.toList.isEmpty) = true then (stratumlaw04_KindValid.j0 k a0 a1 a2 true) else (if (t226 != t224) = true then (stratumlaw04_KindValid.j0 k a0 a1 a2 true) else (if t224 = true then (if (t228 != (decide (a1 < 2))) = true then (stratumlaw04_KindValid.j0 k a0 a1 a2 true) else (if (t232 != (a1 == 0)) = true then (stratumlaw04_KindValid.j0 k a0 a1 a2 true) else (if t232 = true then ((utf_Valid.f k a2).bind fun t233 => (stratumlaw04_KindValid.j0 k a0 a1 a2 (t230 != t233))) else (stratumlaw04_KindValid.j0 k a0 a1 a2 (t230 != false))))) else (if t228 = true then (stratumlaw04_KindValid.j0 k a0 a1 a2 true) else (if (t232 != (a1 == 0)) = true then (stratumlaw04_KindValid.j0 k a0 a1 a2 true) else (if t232 = true then ((utf_Valid.f k a2).bind fun t234 => (stratumlaw04_KindValid.j0 k a0 a1 a2 (t230 != t234))) else (stratumlaw04_KindValid.j0 k a0 a1 a2 (t230 != false)))))))))))))))))) else (some false))) = some r := h
  clear h
  replace H := Option.bind_eq_some_iff.mp H
  obtain ⟨t222, A40, H⟩ := H
  replace H : (if t222 = true then ((kind_Uint.f).bind fun t223 => ((kind_Valid.f k t223 a1 a2).bind fun t224 => ((kind_Int.f).bind fun t225 => ((kind_Valid.f k t225 a1 a2).bind fun t226 => ((kind_Bool.f).bind fun t227 => ((kind_Valid.f k t227 a1 a2).bind fun t228 => ((kind_Text.f).bind fun t229 => ((kind_Valid.f k t229 a1 a2).bind fun t230 => ((kind_Bytes.f).bind fun t231 => ((kind_Valid.f k t231 a1 a2).bind fun t232 => (if (t224 != a2.toList.isEmpty) = true then (stratumlaw04_KindValid.j0 k a0 a1 a2 true) else (if (t226 != t224) = true then (stratumlaw04_KindValid.j0 k a0 a1 a2 true) else (if t224 = true then (if (t228 != (decide (a1 < 2))) = true then (stratumlaw04_KindValid.j0 k a0 a1 a2 true) else (if (t232 != (a1 == 0)) = true then (stratumlaw04_KindValid.j0 k a0 a1 a2 true) else (if t232 = true then ((utf_Valid.f k a2).bind fun t233 => (stratumlaw04_KindValid.j0 k a0 a1 a2 (t230 != t233))) else (stratumlaw04_KindValid.j0 k a0 a1 a2 (t230 != false))))) else (if t228 = true then (stratumlaw04_KindValid.j0 k a0 a1 a2 true) else (if (t232 != (a1 == 0)) = true then (stratumlaw04_KindValid.j0 k a0 a1 a2 true) else (if t232 = true then ((utf_Valid.f k a2).bind fun t234 => (stratumlaw04_KindValid.j0 k a0 a1 a2 (t230 != t234))) else (stratumlaw04_KindValid.j0 k a0 a1 a2 (t230 != false)))))))))))))))))) else (some false)) = some r := H
  have A4 := Aside0.mk A40
  clear A40
  by_cases c5 : t222 = true
  · subst c5
    have H1 : ((kind_Uint.f).bind fun t223 => ((kind_Valid.f k t223 a1 a2).bind fun t224 => ((kind_Int.f).bind fun t225 => ((kind_Valid.f k t225 a1 a2).bind fun t226 => ((kind_Bool.f).bind fun t227 => ((kind_Valid.f k t227 a1 a2).bind fun t228 => ((kind_Text.f).bind fun t229 => ((kind_Valid.f k t229 a1 a2).bind fun t230 => ((kind_Bytes.f).bind fun t231 => ((kind_Valid.f k t231 a1 a2).bind fun t232 => (if (t224 != a2.toList.isEmpty) = true then (stratumlaw04_KindValid.j0 k a0 a1 a2 true) else (if (t226 != t224) = true then (stratumlaw04_KindValid.j0 k a0 a1 a2 true) else (if t224 = true then (if (t228 != (decide (a1 < 2))) = true then (stratumlaw04_KindValid.j0 k a0 a1 a2 true) else (if (t232 != (a1 == 0)) = true then (stratumlaw04_KindValid.j0 k a0 a1 a2 true) else (if t232 = true then ((utf_Valid.f k a2).bind fun t233 => (stratumlaw04_KindValid.j0 k a0 a1 a2 (t230 != t233))) else (stratumlaw04_KindValid.j0 k a0 a1 a2 (t230 != false))))) else (if t228 = true then (stratumlaw04_KindValid.j0 k a0 a1 a2 true) else (if (t232 != (a1 == 0)) = true then (stratumlaw04_KindValid.j0 k a0 a1 a2 true) else (if t232 = true then ((utf_Valid.f k a2).bind fun t234 => (stratumlaw04_KindValid.j0 k a0 a1 a2 (t230 != t234))) else (stratumlaw04_KindValid.j0 k a0 a1 a2 (t230 != false)))))))))))))))))) = some r := by rw [if_pos rfl] at H; exact H
    clear H
    have H := H1
    clear H1
    replace H := Option.bind_eq_some_iff.mp H
    obtain ⟨t223, A60, H⟩ := H
    replace H : ((kind_Valid.f k t223 a1 a2).bind fun t224 => ((kind_Int.f).bind fun t225 => ((kind_Valid.f k t225 a1 a2).bind fun t226 => ((kind_Bool.f).bind fun t227 => ((kind_Valid.f k t227 a1 a2).bind fun t228 => ((kind_Text.f).bind fun t229 => ((kind_Valid.f k t229 a1 a2).bind fun t230 => ((kind_Bytes.f).bind fun t231 => ((kind_Valid.f k t231 a1 a2).bind fun t232 => (if (t224 != a2.toList.isEmpty) = true then (stratumlaw04_KindValid.j0 k a0 a1 a2 true) else (if (t226 != t224) = true then (stratumlaw04_KindValid.j0 k a0 a1 a2 true) else (if t224 = true then (if (t228 != (decide (a1 < 2))) = true then (stratumlaw04_KindValid.j0 k a0 a1 a2 true) else (if (t232 != (a1 == 0)) = true then (stratumlaw04_KindValid.j0 k a0 a1 a2 true) else (if t232 = true then ((utf_Valid.f k a2).bind fun t233 => (stratumlaw04_KindValid.j0 k a0 a1 a2 (t230 != t233))) else (stratumlaw04_KindValid.j0 k a0 a1 a2 (t230 != false))))) else (if t228 = true then (stratumlaw04_KindValid.j0 k a0 a1 a2 true) else (if (t232 != (a1 == 0)) = true then (stratumlaw04_KindValid.j0 k a0 a1 a2 true) else (if t232 = true then ((utf_Valid.f k a2).bind fun t234 => (stratumlaw04_KindValid.j0 k a0 a1 a2 (t230 != t234))) else (stratumlaw04_KindValid.j0 k a0 a1 a2 (t230 != false))))))))))))))))) = some r := H
    have A6 := Aside0.mk A60
    clear A60
    replace H := Option.bind_eq_some_iff.mp H
    obtain ⟨t224, A70, H⟩ := H
    replace H : ((kind_Int.f).bind fun t225 => ((kind_Valid.f k t225 a1 a2).bind fun t226 => ((kind_Bool.f).bind fun t227 => ((kind_Valid.f k t227 a1 a2).bind fun t228 => ((kind_Text.f).bind fun t229 => ((kind_Valid.f k t229 a1 a2).bind fun t230 => ((kind_Bytes.f).bind fun t231 => ((kind_Valid.f k t231 a1 a2).bind fun t232 => (if (t224 != a2.toList.isEmpty) = true then (stratumlaw04_KindValid.j0 k a0 a1 a2 true) else (if (t226 != t224) = true then (stratumlaw04_KindValid.j0 k a0 a1 a2 true) else (if t224 = true then (if (t228 != (decide (a1 < 2))) = true then (stratumlaw04_KindValid.j0 k a0 a1 a2 true) else (if (t232 != (a1 == 0)) = true then (stratumlaw04_KindValid.j0 k a0 a1 a2 true) else (if t232 = true then ((utf_Valid.f k a2).bind fun t233 => (stratumlaw04_KindValid.j0 k a0 a1 a2 (t230 != t233))) else (stratumlaw04_KindValid.j0 k a0 a1 a2 (t230 != false))))) else (if t228 = true then (stratumlaw04_KindValid.j0 k a0 a1 a2 true) else (if (t232 != (a1 == 0)) = true then (stratumlaw04_KindValid.j0 k a0 a1 a2 true) else (if t232 = true then ((utf_Valid.f k a2).bind fun t234 => (stratumlaw04_KindValid.j0 k a0 a1 a2 (t230 != t234))) else (stratumlaw04_KindValid.j0 k a0 a1 a2 (t230 != false)))))))))))))))) = some r := H
    have A7 := Aside0.mk A70
    clear A70
    replace H := Option.bind_eq_some_iff.mp H
    obtain ⟨t225, A80, H⟩ := H
    replace H : ((kind_Valid.f k t225 a1 a2).bind fun t226 => ((kind_Bool.f).bind fun t227 => ((kind_Valid.f k t227 a1 a2).bind fun t228 => ((kind_Text.f).bind fun t229 => ((kind_Valid.f k t229 a1 a2).bind fun t230 => ((kind_Bytes.f).bind fun t231 => ((kind_Valid.f k t231 a1 a2).bind fun t232 => (if (t224 != a2.toList.isEmpty) = true then (stratumlaw04_KindValid.j0 k a0 a1 a2 true) else (if (t226 != t224) = true then (stratumlaw04_KindValid.j0 k a0 a1 a2 true) else (if t224 = true then (if (t228 != (decide (a1 < 2))) = true then (stratumlaw04_KindValid.j0 k a0 a1 a2 true) else (if (t232 != (a1 == 0)) = true then (stratumlaw04_KindValid.j0 k a0 a1 a2 true) else (if t232 = true then ((utf_Valid.f k a2).bind fun t233 => (stratumlaw04_KindValid.j0 k a0 a1 a2 (t230 != t233))) else (stratumlaw04_KindValid.j0 k a0 a1 a2 (t230 != false))))) else (if t228 = true then (stratumlaw04_KindValid.j0 k a0 a1 a2 true) else (if (t232 != (a1 == 0)) = true then (stratumlaw04_KindValid.j0 k a0 a1 a2 true) else (if t232 = true then ((utf_Valid.f k a2).bind fun t234 => (stratumlaw04_KindValid.j0 k a0 a1 a2 (t230 != t234))) else (stratumlaw04_KindValid.j0 k a0 a1 a2 (t230 != false))))))))))))))) = some r := H
    have A8 := Aside0.mk A80
    clear A80
    replace H := Option.bind_eq_some_iff.mp H
    obtain ⟨t226, A90, H⟩ := H
    replace H : ((kind_Bool.f).bind fun t227 => ((kind_Valid.f k t227 a1 a2).bind fun t228 => ((kind_Text.f).bind fun t229 => ((kind_Valid.f k t229 a1 a2).bind fun t230 => ((kind_Bytes.f).bind fun t231 => ((kind_Valid.f k t231 a1 a2).bind fun t232 => (if (t224 != a2.toList.isEmpty) = true then (stratumlaw04_KindValid.j0 k a0 a1 a2 true) else (if (t226 != t224) = true then (stratumlaw04_KindValid.j0 k a0 a1 a2 true) else (if t224 = true then (if (t228 != (decide (a1 < 2))) = true then (stratumlaw04_KindValid.j0 k a0 a1 a2 true) else (if (t232 != (a1 == 0)) = true then (stratumlaw04_KindValid.j0 k a0 a1 a2 true) else (if t232 = true then ((utf_Valid.f k a2).bind fun t233 => (stratumlaw04_KindValid.j0 k a0 a1 a2 (t230 != t233))) else (stratumlaw04_KindValid.j0 k a0 a1 a2 (t230 != false))))) else (if t228 = true then (stratumlaw04_KindValid.j0 k a0 a1 a2 true) else (if (t232 != (a1 == 0)) = true then (stratumlaw04_KindValid.j0 k a0 a1 a2 true) else (if t232 = true then ((utf_Valid.f k a2).bind fun t234 => (stratumlaw04_KindValid.j0 k a0 a1 a2 (t230 != t234))) else (stratumlaw04_KindValid.j0 k a0 a1 a2 (t230 != false)))))))))))))) = some r := H
    have A9 := Aside0.mk A90
    clear A90
    replace H := Option.bind_eq_some_iff.mp H
    obtain ⟨t227, A100, H⟩ := H
    replace H : ((kind_Valid.f k t227 a1 a2).bind fun t228 => ((kind_Text.f).bind fun t229 => ((kind_Valid.f k t229 a1 a2).bind fun t230 => ((kind_Bytes.f).bind fun t231 => ((kind_Valid.f k t231 a1 a2).bind fun t232 => (if (t224 != a2.toList.isEmpty) = true then (stratumlaw04_KindValid.j0 k a0 a1 a2 true) else (if (t226 != t224) = true then (stratumlaw04_KindValid.j0 k a0 a1 a2 true) else (if t224 = true then (if (t228 != (decide (a1 < 2))) = true then (stratumlaw04_KindValid.j0 k a0 a1 a2 true) else (if (t232 != (a1 == 0)) = true then (stratumlaw04_KindValid.j0 k a0 a1 a2 true) else (if t232 = true then ((utf_Valid.f k a2).bind fun t233 => (stratumlaw04_KindValid.j0 k a0 a1 a2 (t230 != t233))) else (stratumlaw04_KindValid.j0 k a0 a1 a2 (t230 != false))))) else (if t228 = true then (stratumlaw04_KindValid.j0 k a0 a1 a2 true) else (if (t232 != (a1 == 0)) = true then (stratumlaw04_KindValid.j0 k a0 a1 a2 true) else (if t232 = true then ((utf_Valid.f k a2).bind fun t234 => (stratumlaw04_KindValid.j0 k a0 a1 a2 (t230 != t234))) else (stratumlaw04_KindValid.j0 k a0 a1 a2 (t230 != false))))))))))))) = some r := H
    have A10 := Aside0.mk A100
    clear A100
    replace H := Option.bind_eq_some_iff.mp H
    obtain ⟨t228, A110, H⟩ := H
    replace H : ((kind_Text.f).bind fun t229 => ((kind_Valid.f k t229 a1 a2).bind fun t230 => ((kind_Bytes.f).bind fun t231 => ((kind_Valid.f k t231 a1 a2).bind fun t232 => (if (t224 != a2.toList.isEmpty) = true then (stratumlaw04_KindValid.j0 k a0 a1 a2 true) else (if (t226 != t224) = true then (stratumlaw04_KindValid.j0 k a0 a1 a2 true) else (if t224 = true then (if (t228 != (decide (a1 < 2))) = true then (stratumlaw04_KindValid.j0 k a0 a1 a2 true) else (if (t232 != (a1 == 0)) = true then (stratumlaw04_KindValid.j0 k a0 a1 a2 true) else (if t232 = true then ((utf_Valid.f k a2).bind fun t233 => (stratumlaw04_KindValid.j0 k a0 a1 a2 (t230 != t233))) else (stratumlaw04_KindValid.j0 k a0 a1 a2 (t230 != false))))) else (if t228 = true then (stratumlaw04_KindValid.j0 k a0 a1 a2 true) else (if (t232 != (a1 == 0)) = true then (stratumlaw04_KindValid.j0 k a0 a1 a2 true) else (if t232 = true then ((utf_Valid.f k a2).bind fun t234 => (stratumlaw04_KindValid.j0 k a0 a1 a2 (t230 != t234))) else (stratumlaw04_KindValid.j0 k a0 a1 a2 (t230 != false)))))))))))) = some r := H
    have A11 := Aside0.mk A110
    clear A110
    replace H := Option.bind_eq_some_iff.mp H
    obtain ⟨t229, A120, H⟩ := H
    replace H : ((kind_Valid.f k t229 a1 a2).bind fun t230 => ((kind_Bytes.f).bind fun t231 => ((kind_Valid.f k t231 a1 a2).bind fun t232 => (if (t224 != a2.toList.isEmpty) = true then (stratumlaw04_KindValid.j0 k a0 a1 a2 true) else (if (t226 != t224) = true then (stratumlaw04_KindValid.j0 k a0 a1 a2 true) else (if t224 = true then (if (t228 != (decide (a1 < 2))) = true then (stratumlaw04_KindValid.j0 k a0 a1 a2 true) else (if (t232 != (a1 == 0)) = true then (stratumlaw04_KindValid.j0 k a0 a1 a2 true) else (if t232 = true then ((utf_Valid.f k a2).bind fun t233 => (stratumlaw04_KindValid.j0 k a0 a1 a2 (t230 != t233))) else (stratumlaw04_KindValid.j0 k a0 a1 a2 (t230 != false))))) else (if t228 = true then (stratumlaw04_KindValid.j0 k a0 a1 a2 true) else (if (t232 != (a1 == 0)) = true then (stratumlaw04_KindValid.j0 k a0 a1 a2 true) else (if t232 = true then ((utf_Valid.f k a2).bind fun t234 => (stratumlaw04_KindValid.j0 k a0 a1 a2 (t230 != t234))) else (stratumlaw04_KindValid.j0 k a0 a1 a2 (t230 != false))))))))))) = some r := H
    have A12 := Aside0.mk A120
    clear A120
    replace H := Option.bind_eq_some_iff.mp H
    obtain ⟨t230, A130, H⟩ := H
    replace H : ((kind_Bytes.f).bind fun t231 => ((kind_Valid.f k t231 a1 a2).bind fun t232 => (if (t224 != a2.toList.isEmpty) = true then (stratumlaw04_KindValid.j0 k a0 a1 a2 true) else (if (t226 != t224) = true then (stratumlaw04_KindValid.j0 k a0 a1 a2 true) else (if t224 = true then (if (t228 != (decide (a1 < 2))) = true then (stratumlaw04_KindValid.j0 k a0 a1 a2 true) else (if (t232 != (a1 == 0)) = true then (stratumlaw04_KindValid.j0 k a0 a1 a2 true) else (if t232 = true then ((utf_Valid.f k a2).bind fun t233 => (stratumlaw04_KindValid.j0 k a0 a1 a2 (t230 != t233))) else (stratumlaw04_KindValid.j0 k a0 a1 a2 (t230 != false))))) else (if t228 = true then (stratumlaw04_KindValid.j0 k a0 a1 a2 true) else (if (t232 != (a1 == 0)) = true then (stratumlaw04_KindValid.j0 k a0 a1 a2 true) else (if t232 = true then ((utf_Valid.f k a2).bind fun t234 => (stratumlaw04_KindValid.j0 k a0 a1 a2 (t230 != t234))) else (stratumlaw04_KindValid.j0 k a0 a1 a2 (t230 != false)))))))))) = some r := H
    have A13 := Aside0.mk A130
    clear A130
    replace H := Option.bind_eq_some_iff.mp H
    obtain ⟨t231, A140, H⟩ := H
    replace H : ((kind_Valid.f k t231 a1 a2).bind fun t232 => (if (t224 != a2.toList.isEmpty) = true then (stratumlaw04_KindValid.j0 k a0 a1 a2 true) else (if (t226 != t224) = true then (stratumlaw04_KindValid.j0 k a0 a1 a2 true) else (if t224 = true then (if (t228 != (decide (a1 < 2))) = true then (stratumlaw04_KindValid.j0 k a0 a1 a2 true) else (if (t232 != (a1 == 0)) = true then (stratumlaw04_KindValid.j0 k a0 a1 a2 true) else (if t232 = true then ((utf_Valid.f k a2).bind fun t233 => (stratumlaw04_KindValid.j0 k a0 a1 a2 (t230 != t233))) else (stratumlaw04_KindValid.j0 k a0 a1 a2 (t230 != false))))) else (if t228 = true then (stratumlaw04_KindValid.j0 k a0 a1 a2 true) else (if (t232 != (a1 == 0)) = true then (stratumlaw04_KindValid.j0 k a0 a1 a2 true) else (if t232 = true then ((utf_Valid.f k a2).bind fun t234 => (stratumlaw04_KindValid.j0 k a0 a1 a2 (t230 != t234))) else (stratumlaw04_KindValid.j0 k a0 a1 a2 (t230 != false))))))))) = some r := H
    have A14 := Aside0.mk A140
    clear A140
    replace H := Option.bind_eq_some_iff.mp H
    obtain ⟨t232, A150, H⟩ := H
    replace H : (if (t224 != a2.toList.isEmpty) = true then (stratumlaw04_KindValid.j0 k a0 a1 a2 true) else (if (t226 != t224) = true then (stratumlaw04_KindValid.j0 k a0 a1 a2 true) else (if t224 = true then (if (t228 != (decide (a1 < 2))) = true then (stratumlaw04_KindValid.j0 k a0 a1 a2 true) else (if (t232 != (a1 == 0)) = true then (stratumlaw04_KindValid.j0 k a0 a1 a2 true) else (if t232 = true then ((utf_Valid.f k a2).bind fun t233 => (stratumlaw04_KindValid.j0 k a0 a1 a2 (t230 != t233))) else (stratumlaw04_KindValid.j0 k a0 a1 a2 (t230 != false))))) else (if t228 = true then (stratumlaw04_KindValid.j0 k a0 a1 a2 true) else (if (t232 != (a1 == 0)) = true then (stratumlaw04_KindValid.j0 k a0 a1 a2 true) else (if t232 = true then ((utf_Valid.f k a2).bind fun t234 => (stratumlaw04_KindValid.j0 k a0 a1 a2 (t230 != t234))) else (stratumlaw04_KindValid.j0 k a0 a1 a2 (t230 != false)))))))) = some r := H
    have A15 := Aside0.mk A150
    clear A150
    have HC16 := Aside0.mk H
    clear H
    go_enter Try.func7, Try.ntmps7
    go_upto_region 8 with (first | ((with_reducible refine gate_callee (f := 9) rfl ?_); refine goesL_ (some 12) rfl rfl Try.func9 (by kernel_rfl) rfl #[] rfl (by (try simp only [List.map_toArray, List.map_cons, List.map_nil]); first | done | rfl | (simp only [List.length_drop, List.length_take]; rfl)) ?_; (with_reducible refine (stratumlaw04_awake.calls k  true _ A4.out).mono ?_); rintro e w17 ⟨rfl, hb⟩; refine ⟨_, rfl, ?_⟩; have n0_ := Aside0.mk (below_step (by repeat (first | (with_reducible first | exact HB.out | apply below_alloc | apply pw_below_drewN | apply below_drew1) | exact HB.out)) hb); clear HB; have HB := n0_; clear n0_; (try clear hb); (try clear hb2); (try clear hk); (try clear hi)) | ((with_reducible refine gate_callee (f := 18) rfl ?_); refine goesL_ (some 14) rfl rfl Try.func18 (by kernel_rfl) rfl #[] rfl (by (try simp only [List.map_toArray, List.map_cons, List.map_nil]); first | done | rfl | (simp only [List.length_drop, List.length_take]; rfl)) ?_; (with_reducible refine (kind_Uint.calls  t223 _ A6.out).mono ?_); rintro e w' ⟨rfl, ⟨nd, rfl⟩⟩; refine ⟨_, rfl, ?_⟩) | ((with_reducible refine gate_callee (f := 10) rfl ?_); refine goesL_ (some 18) rfl rfl Try.func10 (by kernel_rfl) rfl #[.agg #[.int .i64 t223, .int .u64 a1, .string a2]] rfl (by (try simp only [List.map_toArray, List.map_cons, List.map_nil]); first | done | rfl | (simp only [List.length_drop, List.length_take]; rfl)) ?_; (with_reducible refine (kind_Valid.calls k t223 a1 a2 t224 _ A7.out).mono ?_); rintro e w18 ⟨rfl, hb⟩; refine ⟨_, rfl, ?_⟩; have n0_ := Aside0.mk (below_step (by repeat (first | (with_reducible first | exact HB.out | apply below_alloc | apply pw_below_drewN | apply below_drew1) | exact HB.out)) hb); clear HB; have HB := n0_; clear n0_; (try clear hb); (try clear hb2); (try clear hk); (try clear hi)) | ((with_reducible refine gate_callee (f := 19) rfl ?_); refine goesL_ (some 19) rfl rfl Try.func19 (by kernel_rfl) rfl #[] rfl (by (try simp only [List.map_toArray, List.map_cons, List.map_nil]); first | done | rfl | (simp only [List.length_drop, List.length_take]; rfl)) ?_; (with_reducible refine (kind_Int.calls  t225 _ A8.out).mono ?_); rintro e w' ⟨rfl, ⟨nd, rfl⟩⟩; refine ⟨_, rfl, ?_⟩) | ((with_reducible refine gate_callee (f := 10) rfl ?_); refine goesL_ (some 23) rfl rfl Try.func10 (by kernel_rfl) rfl #[.agg #[.int .i64 t225, .int .u64 a1, .string a2]] rfl (by (try simp only [List.map_toArray, List.map_cons, List.map_nil]); first | done | rfl | (simp only [List.length_drop, List.length_take]; rfl)) ?_; (with_reducible refine (kind_Valid.calls k t225 a1 a2 t226 _ A9.out).mono ?_); rintro e w19 ⟨rfl, hb⟩; refine ⟨_, rfl, ?_⟩; have n0_ := Aside0.mk (below_step (by repeat (first | (with_reducible first | exact HB.out | apply below_alloc | apply pw_below_drewN | apply below_drew1) | exact HB.out)) hb); clear HB; have HB := n0_; clear n0_; (try clear hb); (try clear hb2); (try clear hk); (try clear hi)) | ((with_reducible refine gate_callee (f := 20) rfl ?_); refine goesL_ (some 24) rfl rfl Try.func20 (by kernel_rfl) rfl #[] rfl (by (try simp only [List.map_toArray, List.map_cons, List.map_nil]); first | done | rfl | (simp only [List.length_drop, List.length_take]; rfl)) ?_; (with_reducible refine (kind_Bool.calls  t227 _ A10.out).mono ?_); rintro e w' ⟨rfl, ⟨nd, rfl⟩⟩; refine ⟨_, rfl, ?_⟩) | ((with_reducible refine gate_callee (f := 10) rfl ?_); refine goesL_ (some 28) rfl rfl Try.func10 (by kernel_rfl) rfl #[.agg #[.int .i64 t227, .int .u64 a1, .string a2]] rfl (by (try simp only [List.map_toArray, List.map_cons, List.map_nil]); first | done | rfl | (simp only [List.length_drop, List.length_take]; rfl)) ?_; (with_reducible refine (kind_Valid.calls k t227 a1 a2 t228 _ A11.out).mono ?_); rintro e w20 ⟨rfl, hb⟩; refine ⟨_, rfl, ?_⟩; have n0_ := Aside0.mk (below_step (by repeat (first | (with_reducible first | exact HB.out | apply below_alloc | apply pw_below_drewN | apply below_drew1) | exact HB.out)) hb); clear HB; have HB := n0_; clear n0_; (try clear hb); (try clear hb2); (try clear hk); (try clear hi)) | ((with_reducible refine gate_callee (f := 21) rfl ?_); refine goesL_ (some 29) rfl rfl Try.func21 (by kernel_rfl) rfl #[] rfl (by (try simp only [List.map_toArray, List.map_cons, List.map_nil]); first | done | rfl | (simp only [List.length_drop, List.length_take]; rfl)) ?_; (with_reducible refine (kind_Text.calls  t229 _ A12.out).mono ?_); rintro e w' ⟨rfl, ⟨nd, rfl⟩⟩; refine ⟨_, rfl, ?_⟩) | ((with_reducible refine gate_callee (f := 10) rfl ?_); refine goesL_ (some 33) rfl rfl Try.func10 (by kernel_rfl) rfl #[.agg #[.int .i64 t229, .int .u64 a1, .string a2]] rfl (by (try simp only [List.map_toArray, List.map_cons, List.map_nil]); first | done | rfl | (simp only [List.length_drop, List.length_take]; rfl)) ?_; (with_reducible refine (kind_Valid.calls k t229 a1 a2 t230 _ A13.out).mono ?_); rintro e w21 ⟨rfl, hb⟩; refine ⟨_, rfl, ?_⟩; have n0_ := Aside0.mk (below_step (by repeat (first | (with_reducible first | exact HB.out | apply below_alloc | apply pw_below_drewN | apply below_drew1) | exact HB.out)) hb); clear HB; have HB := n0_; clear n0_; (try clear hb); (try clear hb2); (try clear hk); (try clear hi)) | ((with_reducible refine gate_callee (f := 22) rfl ?_); refine goesL_ (some 34) rfl rfl Try.func22 (by kernel_rfl) rfl #[] rfl (by (try simp only [List.map_toArray, List.map_cons, List.map_nil]); first | done | rfl | (simp only [List.length_drop, List.length_take]; rfl)) ?_; (with_reducible refine (kind_Bytes.calls  t231 _ A14.out).mono ?_); rintro e w' ⟨rfl, ⟨nd, rfl⟩⟩; refine ⟨_, rfl, ?_⟩) | ((with_reducible refine gate_callee (f := 10) rfl ?_); refine goesL_ (some 38) rfl rfl Try.func10 (by kernel_rfl) rfl #[.agg #[.int .i64 t231, .int .u64 a1, .string a2]] rfl (by (try simp only [List.map_toArray, List.map_cons, List.map_nil]); first | done | rfl | (simp only [List.length_drop, List.length_take]; rfl)) ?_; (with_reducible refine (kind_Valid.calls k t231 a1 a2 t232 _ A15.out).mono ?_); rintro e w22 ⟨rfl, hb⟩; refine ⟨_, rfl, ?_⟩; have n0_ := Aside0.mk (below_step (by repeat (first | (with_reducible first | exact HB.out | apply below_alloc | apply pw_below_drewN | apply below_drew1) | exact HB.out)) hb); clear HB; have HB := n0_; clear n0_; (try clear hb); (try clear hb2); (try clear hk); (try clear hi)))
    (try simp only [Act.put, List.setIfInBounds_toArray, List.set_cons_zero, List.set_cons_succ])
    go_cut [71] (fun v71 wc => ∃ (kq : Nat) (x71_15 : Bool), v71 = .bool x71_15 ∧ Aside0 (stratumlaw04_KindValid.j0 kq a0 a1 a2 x71_15 = some r) ∧ Aside0 (kq ≤ k) ∧ Aside0 (Below w.heap.size w wc))
    case first =>
      have H := HC16.out
      clear HC16
      by_cases c23 : (t224 != a2.toList.isEmpty) = true
      · rw [if_pos c23] at H
        have c23b0 : (t224 != a2.toList.isEmpty) = true := c23
        (try (have c23b1 : decide (t224 = a2.toList.isEmpty) = false := by simpa using c23))
        (try (have c23b2 : (t224 == a2.toList.isEmpty) = false := by simpa using c23))
        (try (have c23b3 : ¬ (t224 = a2.toList.isEmpty) := by simpa using c23))
        clear c23
        (first | rw [c23b0] | (simp only [i64_w, i32_w]; rw [c23b0]) | skip)
        have H' := Aside0.mk H
        clear H
        go_wp2
        go_meet
        case rel => exact ⟨_, (true), (by first | rfl | (simp; done) | (simp [*]; done)), H', ⟨by first | omega | exact Nat.le_refl _⟩, ⟨by repeat (first | (with_reducible first | exact HB.out | apply below_alloc | apply pw_below_drewN | apply below_drew1) | exact HB.out)⟩⟩
      · rw [if_neg c23] at H
        have c23b0 : (t224 != a2.toList.isEmpty) = false := by simpa using c23
        (try (have c23b1 : decide (t224 = a2.toList.isEmpty) = true := by simpa using c23))
        (try (have c23b2 : (t224 == a2.toList.isEmpty) = true := by simpa using c23))
        clear c23
        (first | rw [c23b0] | (simp only [i64_w, i32_w]; rw [c23b0]) | skip)
        by_cases c24 : (t226 != t224) = true
        · rw [if_pos c24] at H
          have c24b0 : (t226 != t224) = true := c24
          (try (have c24b1 : decide (t226 = t224) = false := by simpa using c24))
          (try (have c24b2 : (t226 == t224) = false := by simpa using c24))
          (try (have c24b3 : ¬ (t226 = t224) := by simpa using c24))
          clear c24
          have H' := Aside0.mk H
          clear H
          go_wp2
          go_meet
          case rel => exact ⟨_, (true), (by first | rfl | (simp; done) | (simp [*]; done)), H', ⟨by first | omega | exact Nat.le_refl _⟩, ⟨by repeat (first | (with_reducible first | exact HB.out | apply below_alloc | apply pw_below_drewN | apply below_drew1) | exact HB.out)⟩⟩
        · rw [if_neg c24] at H
          have c24b0 : (t226 != t224) = false := by simpa using c24
          (try (have c24b1 : decide (t226 = t224) = true := by simpa using c24))
          (try (have c24b2 : (t226 == t224) = true := by simpa using c24))
          clear c24
          by_cases c25 : t224 = true
          · subst c25
            have H1 : (if (t228 != (decide (a1 < 2))) = true then (stratumlaw04_KindValid.j0 k a0 a1 a2 true) else (if (t232 != (a1 == 0)) = true then (stratumlaw04_KindValid.j0 k a0 a1 a2 true) else (if t232 = true then ((utf_Valid.f k a2).bind fun t233 => (stratumlaw04_KindValid.j0 k a0 a1 a2 (t230 != t233))) else (stratumlaw04_KindValid.j0 k a0 a1 a2 (t230 != false))))) = some r := by rw [if_pos rfl] at H; exact H
            clear H
            have H := H1
            clear H1
            by_cases c26 : (t228 != (decide (a1 < 2))) = true
            · rw [if_pos c26] at H
              have c26b0 : (t228 != (decide (a1 < 2))) = true := c26
              (try (have c26b1 : decide (t228 = (decide (a1 < 2))) = false := by simpa using c26))
              (try (have c26b2 : (t228 == (decide (a1 < 2))) = false := by simpa using c26))
              (try (have c26b3 : ¬ (t228 = (decide (a1 < 2))) := by simpa using c26))
              clear c26
              have H' := Aside0.mk H
              clear H
              go_wp2
              go_meet
              case rel => exact ⟨_, (true), (by first | rfl | (simp; done) | (simp [*]; done)), H', ⟨by first | omega | exact Nat.le_refl _⟩, ⟨by repeat (first | (with_reducible first | exact HB.out | apply below_alloc | apply pw_below_drewN | apply below_drew1) | exact HB.out)⟩⟩
            · rw [if_neg c26] at H
              have c26b0 : (t228 != (decide (a1 < 2))) = false := by simpa using c26
              (try (have c26b1 : decide (t228 = (decide (a1 < 2))) = true := by simpa using c26))
              (try (have c26b2 : (t228 == (decide (a1 < 2))) = true := by simpa using c26))
              clear c26
              by_cases c27 : (t232 != (a1 == 0)) = true
              · rw [if_pos c27] at H
                have c27b0 : (t232 != (a1 == 0)) = true := c27
                (try (have c27b1 : decide (t232 = (a1 == 0)) = false := by simpa using c27))
                (try (have c27b2 : (t232 == (a1 == 0)) = false := by simpa using c27))
                (try (have c27b3 : ¬ (t232 = (a1 == 0)) := by simpa using c27))
                clear c27
                have H' := Aside0.mk H
                clear H
                go_wp2
                go_meet
                case rel => exact ⟨_, (true), (by first | rfl | (simp; done) | (simp [*]; done)), H', ⟨by first | omega | exact Nat.le_refl _⟩, ⟨by repeat (first | (with_reducible first | exact HB.out | apply below_alloc | apply pw_below_drewN | apply below_drew1) | exact HB.out)⟩⟩
              · rw [if_neg c27] at H
                have c27b0 : (t232 != (a1 == 0)) = false := by simpa using c27
                (try (have c27b1 : decide (t232 = (a1 == 0)) = true := by simpa using c27))
                (try (have c27b2 : (t232 == (a1 == 0)) = true := by simpa using c27))
                clear c27
                by_cases c28 : t232 = true
                · subst c28
                  have H1 : ((utf_Valid.f k a2).bind fun t233 => (stratumlaw04_KindValid.j0 k a0 a1 a2 (t230 != t233))) = some r := by rw [if_pos rfl] at H; exact H
                  clear H
                  have H := H1
                  clear H1
                  replace H := Option.bind_eq_some_iff.mp H
                  obtain ⟨t233, A290, H⟩ := H
                  replace H : (stratumlaw04_KindValid.j0 k a0 a1 a2 (t230 != t233)) = some r := H
                  have A29 := Aside0.mk A290
                  clear A290
                  have H' := Aside0.mk H
                  clear H
                  go_wp2_with (first | (go_at_call 23; (with_reducible refine (utf_Valid.calls k a2 t233 _ A29.out).mono ?_); rintro e w30 ⟨rfl, hb⟩; have n0_ := Aside0.mk (below_step (by repeat (first | (with_reducible first | exact HB.out | apply below_alloc | apply pw_below_drewN | apply below_drew1) | exact HB.out)) hb); clear HB; have HB := n0_; clear n0_; (try clear hb); (try clear hb2); (try clear hk); (try clear hi)))
                  go_meet
                  case rel => exact ⟨_, ((t230 != t233)), (by first | rfl | (simp; done) | (simp [*]; done)), H', ⟨by first | omega | exact Nat.le_refl _⟩, ⟨by repeat (first | (with_reducible first | exact HB.out | apply below_alloc | apply pw_below_drewN | apply below_drew1) | exact HB.out)⟩⟩
                · replace c28 := Bool.eq_false_iff.mpr c28
                  subst c28
                  have H1 : (stratumlaw04_KindValid.j0 k a0 a1 a2 (t230 != false)) = some r := by rw [if_neg (show ¬ (false = true) by decide)] at H; exact H
                  clear H
                  have H := H1
                  clear H1
                  have H' := Aside0.mk H
                  clear H
                  go_wp2
                  go_meet
                  case rel => exact ⟨_, ((t230 != false)), (by first | rfl | (simp; done) | (simp [*]; done)), H', ⟨by first | omega | exact Nat.le_refl _⟩, ⟨by repeat (first | (with_reducible first | exact HB.out | apply below_alloc | apply pw_below_drewN | apply below_drew1) | exact HB.out)⟩⟩
          · replace c25 := Bool.eq_false_iff.mpr c25
            subst c25
            have H1 : (if t228 = true then (stratumlaw04_KindValid.j0 k a0 a1 a2 true) else (if (t232 != (a1 == 0)) = true then (stratumlaw04_KindValid.j0 k a0 a1 a2 true) else (if t232 = true then ((utf_Valid.f k a2).bind fun t234 => (stratumlaw04_KindValid.j0 k a0 a1 a2 (t230 != t234))) else (stratumlaw04_KindValid.j0 k a0 a1 a2 (t230 != false))))) = some r := by rw [if_neg (show ¬ (false = true) by decide)] at H; exact H
            clear H
            have H := H1
            clear H1
            by_cases c31 : t228 = true
            · subst c31
              have H1 : (stratumlaw04_KindValid.j0 k a0 a1 a2 true) = some r := by rw [if_pos rfl] at H; exact H
              clear H
              have H := H1
              clear H1
              have H' := Aside0.mk H
              clear H
              go_wp2
              go_meet
              case rel => exact ⟨_, (true), (by first | rfl | (simp; done) | (simp [*]; done)), H', ⟨by first | omega | exact Nat.le_refl _⟩, ⟨by repeat (first | (with_reducible first | exact HB.out | apply below_alloc | apply pw_below_drewN | apply below_drew1) | exact HB.out)⟩⟩
            · replace c31 := Bool.eq_false_iff.mpr c31
              subst c31
              have H1 : (if (t232 != (a1 == 0)) = true then (stratumlaw04_KindValid.j0 k a0 a1 a2 true) else (if t232 = true then ((utf_Valid.f k a2).bind fun t234 => (stratumlaw04_KindValid.j0 k a0 a1 a2 (t230 != t234))) else (stratumlaw04_KindValid.j0 k a0 a1 a2 (t230 != false)))) = some r := by rw [if_neg (show ¬ (false = true) by decide)] at H; exact H
              clear H
              have H := H1
              clear H1
              by_cases c32 : (t232 != (a1 == 0)) = true
              · rw [if_pos c32] at H
                have c32b0 : (t232 != (a1 == 0)) = true := c32
                (try (have c32b1 : decide (t232 = (a1 == 0)) = false := by simpa using c32))
                (try (have c32b2 : (t232 == (a1 == 0)) = false := by simpa using c32))
                (try (have c32b3 : ¬ (t232 = (a1 == 0)) := by simpa using c32))
                clear c32
                have H' := Aside0.mk H
                clear H
                go_wp2
                go_meet
                case rel => exact ⟨_, (true), (by first | rfl | (simp; done) | (simp [*]; done)), H', ⟨by first | omega | exact Nat.le_refl _⟩, ⟨by repeat (first | (with_reducible first | exact HB.out | apply below_alloc | apply pw_below_drewN | apply below_drew1) | exact HB.out)⟩⟩
              · rw [if_neg c32] at H
                have c32b0 : (t232 != (a1 == 0)) = false := by simpa using c32
                (try (have c32b1 : decide (t232 = (a1 == 0)) = true := by simpa using c32))
                (try (have c32b2 : (t232 == (a1 == 0)) = true := by simpa using c32))
                clear c32
                by_cases c33 : t232 = true
                · subst c33
                  have H1 : ((utf_Valid.f k a2).bind fun t234 => (stratumlaw04_KindValid.j0 k a0 a1 a2 (t230 != t234))) = some r := by rw [if_pos rfl] at H; exact H
                  clear H
                  have H := H1
                  clear H1
                  replace H := Option.bind_eq_some_iff.mp H
                  obtain ⟨t234, A340, H⟩ := H
                  replace H : (stratumlaw04_KindValid.j0 k a0 a1 a2 (t230 != t234)) = some r := H
                  have A34 := Aside0.mk A340
                  clear A340
                  have H' := Aside0.mk H
                  clear H
                  go_wp2_with (first | (go_at_call 23; (with_reducible refine (utf_Valid.calls k a2 t234 _ A34.out).mono ?_); rintro e w35 ⟨rfl, hb⟩; have n0_ := Aside0.mk (below_step (by repeat (first | (with_reducible first | exact HB.out | apply below_alloc | apply pw_below_drewN | apply below_drew1) | exact HB.out)) hb); clear HB; have HB := n0_; clear n0_; (try clear hb); (try clear hb2); (try clear hk); (try clear hi)))
                  go_meet
                  case rel => exact ⟨_, ((t230 != t234)), (by first | rfl | (simp; done) | (simp [*]; done)), H', ⟨by first | omega | exact Nat.le_refl _⟩, ⟨by repeat (first | (with_reducible first | exact HB.out | apply below_alloc | apply pw_below_drewN | apply below_drew1) | exact HB.out)⟩⟩
                · replace c33 := Bool.eq_false_iff.mpr c33
                  subst c33
                  have H1 : (stratumlaw04_KindValid.j0 k a0 a1 a2 (t230 != false)) = some r := by rw [if_neg (show ¬ (false = true) by decide)] at H; exact H
                  clear H
                  have H := H1
                  clear H1
                  have H' := Aside0.mk H
                  clear H
                  go_wp2
                  go_meet
                  case rel => exact ⟨_, ((t230 != false)), (by first | rfl | (simp; done) | (simp [*]; done)), H', ⟨by first | omega | exact Nat.le_refl _⟩, ⟨by repeat (first | (with_reducible first | exact HB.out | apply below_alloc | apply pw_below_drewN | apply below_drew1) | exact HB.out)⟩⟩
    case rest =>
      clear HC16
      try clear c1
      try clear c2
      try clear p2
      try clear c3
      try clear c5
      try clear c7
      try clear c9
      try clear c10
      try clear c18
      try clear c19
      try clear c20
      try clear c21
      try clear c22
      try clear c23
      try clear c23b0
      try clear c23b1
      try clear c23b2
      try clear c24
      try clear c24b0
      try clear c24b1
      try clear c24b2
      try clear c25
      try clear c26
      try clear c26b0
      try clear c26b1
      try clear c26b2
      try clear c27
      try clear c27b0
      try clear c27b1
      try clear c27b2
      try clear c28
      try clear c31
      try clear c32
      try clear c32b0
      try clear c32b1
      try clear c32b2
      try clear c33
      obtain ⟨kq, x71_15, rfl, HA, HJ15, HB⟩ := hcut
      cases kq with
      | zero => exact absurd HA.out (by simp [stratumlaw04_KindValid.j0])
      | succ kj15 =>
        have H := HA.out
        clear HA
        simp only [stratumlaw04_KindValid.j0] at H
        by_cases c36 : x71_15 = true
        · subst c36
          have H1 : (some false) = some r := by rw [if_pos rfl] at H; exact H
          clear H
          have H := H1
          clear H1
          obtain rfl := Option.some.inj H
          go_wp2
          go_ret
          exact ⟨by first | rfl | (simp [errW_none, errW_some] <;> rfl) | (simp [*, errW_none, errW_some] <;> rfl), by repeat (first | (with_reducible first | exact HB.out | apply below_alloc | apply pw_below_drewN | apply below_drew1) | exact HB.out)⟩
        · replace c36 := Bool.eq_false_iff.mpr c36
          subst c36
          have H1 : ((kind_Name.f a0).bind fun t235 => (if t235.toList = ([] : List UInt8) then ((kind_Valid.f kj15 a0 a1 a2).bind fun t236 => (some (!t236))) else (some true))) = some r := by rw [if_neg (show ¬ (false = true) by decide)] at H; exact H
          clear H
          have H := H1
          clear H1
          replace H := Option.bind_eq_some_iff.mp H
          obtain ⟨t235, A370, H⟩ := H
          replace H : (if t235.toList = ([] : List UInt8) then ((kind_Valid.f kj15 a0 a1 a2).bind fun t236 => (some (!t236))) else (some true)) = some r := H
          have A37 := Aside0.mk A370
          clear A370
          by_cases c38 : t235.toList = ([] : List UInt8)
          · rw [if_pos c38] at H
            (try (have c38b0 : t235.toList.isEmpty = true := by simpa using c38))
            have c38b1 : (t235.toList == ([] : List UInt8)) = true := beq_iff_eq.mpr c38
            have c38b2 : (t235.toList != ([] : List UInt8)) = false := bne_eq_false_iff_eq.mpr c38
            clear c38
            replace H := Option.bind_eq_some_iff.mp H
            obtain ⟨t236, A390, H⟩ := H
            replace H : (some (!t236)) = some r := H
            have A39 := Aside0.mk A390
            clear A390
            obtain rfl := Option.some.inj H
            go_wp2_with (first | ((with_reducible refine gate_callee (f := 16) rfl ?_); refine goesL_ (some 73) rfl rfl Try.func16 (by kernel_rfl) rfl #[.int .i64 a0] rfl (by (try simp only [List.map_toArray, List.map_cons, List.map_nil]); first | done | rfl | (simp only [List.length_drop, List.length_take]; rfl)) ?_; (with_reducible refine (kind_Name.calls a0 t235 _ A37.out).mono ?_); rintro e w40 ⟨rfl, hb⟩; refine ⟨_, rfl, ?_⟩; have n0_ := Aside0.mk (below_step (by repeat (first | (with_reducible first | exact HB.out | apply below_alloc | apply pw_below_drewN | apply below_drew1) | exact HB.out)) hb); clear HB; have HB := n0_; clear n0_; (try clear hb); (try clear hb2); (try clear hk); (try clear hi)) | (go_at_call 10; (with_reducible refine (kind_Valid.calls kj15 a0 a1 a2 t236 _ A39.out).mono ?_); rintro e w41 ⟨rfl, hb⟩; have n0_ := Aside0.mk (below_step (by repeat (first | (with_reducible first | exact HB.out | apply below_alloc | apply pw_below_drewN | apply below_drew1) | exact HB.out)) hb); clear HB; have HB := n0_; clear n0_; (try clear hb); (try clear hb2); (try clear hk); (try clear hi)))
            go_ret
            exact ⟨by first | rfl | (simp [errW_none, errW_some] <;> rfl) | (simp [*, errW_none, errW_some] <;> rfl), by repeat (first | (with_reducible first | exact HB.out | apply below_alloc | apply pw_below_drewN | apply below_drew1) | exact HB.out)⟩
          · rw [if_neg c38] at H
            (try (have c38b0 : t235.toList.isEmpty = false := by simpa using c38))
            have c38b1 : (t235.toList == ([] : List UInt8)) = false := beq_eq_false_iff_ne.mpr c38
            have c38b2 : (t235.toList != ([] : List UInt8)) = true := bne_iff_ne.mpr c38
            obtain rfl := Option.some.inj H
            go_wp2_with (first | ((with_reducible refine gate_callee (f := 16) rfl ?_); refine goesL_ (some 73) rfl rfl Try.func16 (by kernel_rfl) rfl #[.int .i64 a0] rfl (by (try simp only [List.map_toArray, List.map_cons, List.map_nil]); first | done | rfl | (simp only [List.length_drop, List.length_take]; rfl)) ?_; (with_reducible refine (kind_Name.calls a0 t235 _ A37.out).mono ?_); rintro e w42 ⟨rfl, hb⟩; refine ⟨_, rfl, ?_⟩; have n0_ := Aside0.mk (below_step (by repeat (first | (with_reducible first | exact HB.out | apply below_alloc | apply pw_below_drewN | apply below_drew1) | exact HB.out)) hb); clear HB; have HB := n0_; clear n0_; (try clear hb); (try clear hb2); (try clear hk); (try clear hi)))
            go_ret
            exact ⟨by first | rfl | (simp [errW_none, errW_some] <;> rfl) | (simp [*, errW_none, errW_some] <;> rfl), by repeat (first | (with_reducible first | exact HB.out | apply below_alloc | apply pw_below_drewN | apply below_drew1) | exact HB.out)⟩
  · replace c5 := Bool.eq_false_iff.mpr c5
    subst c5
    have H1 : (some false) = some r := by rw [if_neg (show ¬ (false = true) by decide)] at H; exact H
    clear H
    have H := H1
    clear H1
    obtain rfl := Option.some.inj H
    go_enter Try.func7, Try.ntmps7
    go_wp2_with (first | ((with_reducible refine gate_callee (f := 9) rfl ?_); refine goesL_ (some 12) rfl rfl Try.func9 (by kernel_rfl) rfl #[] rfl (by (try simp only [List.map_toArray, List.map_cons, List.map_nil]); first | done | rfl | (simp only [List.length_drop, List.length_take]; rfl)) ?_; (with_reducible refine (stratumlaw04_awake.calls k  false _ A4.out).mono ?_); rintro e w43 ⟨rfl, hb⟩; refine ⟨_, rfl, ?_⟩; have n0_ := Aside0.mk (below_step (by repeat (first | (with_reducible first | exact HB.out | apply below_alloc | apply pw_below_drewN | apply below_drew1) | exact HB.out)) hb); clear HB; have HB := n0_; clear n0_; (try clear hb); (try clear hb2); (try clear hk); (try clear hi)))
    go_ret
    exact ⟨by first | rfl | (simp [errW_none, errW_some] <;> rfl) | (simp [*, errW_none, errW_some] <;> rfl), by repeat (first | (with_reducible first | exact HB.out | apply below_alloc | apply pw_below_drewN | apply below_drew1) | exact HB.out)⟩

/-- THE ONE PURE STATEMENT of stratumlaw04_KindValid: yours. -/
def stratumlaw04_KindValid.Pure : Prop := ∀ (a0 : Int) (a1 : Int) (a2 : ByteArray), (Lit.int .i64 a0).wf = true → (Lit.int .u64 a1).wf = true → a2.size ≤ 140737488351232 → ∃ k, stratumlaw04_KindValid.f k a0 a1 a2 = some true
theorem stratumlaw04_KindValid.walk (P : stratumlaw04_KindValid.Pure) (a0 : Int) (a1 : Int) (a2 : ByteArray) (w : World) (w0 : (Lit.int .i64 a0).wf = true) (w1 : (Lit.int .u64 a1).wf = true) (w2 : a2.size ≤ 140737488351232) :
    Calls Try.prog 7 #[.int .i64 a0, .int .u64 a1, .string a2] w fun e w' => e = .returned (.bool true) ∧ Below w.heap.size w w' := by
  obtain ⟨k, h⟩ := P a0 a1 a2 w0 w1 w2
  refine (stratumlaw04_KindValid.calls k a0 a1 a2 true w h).mono ?_
  rintro e w' ⟨rfl, hd⟩
  exact ⟨rfl, hd⟩

/-! ### stratumref01_entry: function 40 -/
def stratumref01_entry.f (a0 : Int) (a1 : Int) (a2 : ByteArray) (a3 : Int) : Option (Int × Int × ByteArray × Int) := some (a0, a1, a2, a3)
set_option maxHeartbeats 8000000 in
set_option maxRecDepth 100000 in
theorem stratumref01_entry.calls (a0 : Int) (a1 : Int) (a2 : ByteArray) (a3 : Int) (r1 : Int) (r2 : Int) (r3 : ByteArray) (r4 : Int) (w : World) (h : stratumref01_entry.f a0 a1 a2 a3 = some (r1, r2, r3, r4)) :
    Calls Try.prog 40 #[.int .i64 a0, .int .i64 a1, .string a2, .int .i64 a3] w fun e w' => e = .returned (.agg #[.int .i64 r1, .int .i64 r2, .string r3, .int .i64 r4]) ∧ Below w.heap.size w w' := by
  have hu41 := Try.underlying41
  have HB := Aside0.mk (Below.refl w.heap.size w)
  have H : (some (a0, a1, a2, a3)) = some (r1, r2, r3, r4) := h
  clear h
  simp only [Option.some.injEq, Prod.mk.injEq] at H
  obtain ⟨rfl, rfl, rfl, rfl⟩ := H
  go_enter Try.func40, Try.ntmps40
  go_wp2_with (first | ((with_reducible refine gate_dst (N := 8) rfl ?_); refine box_event ?hg (N := 8) ?hd (cs := #[.int .i64 0, .int .i64 0, .string (⟨#[]⟩ : ByteArray), .int .i64 0]) (t := 41) ?hr ?_; (case hd => rfl); (case hg => rfl); (case hr => first | (go_simp; done) | (go_simp; rfl)); intro gb237 hg w5 hbox hb; have n0_ := Aside0.mk (below_step (by repeat (first | (with_reducible first | exact HB.out | apply below_alloc | apply pw_below_drewN | apply below_drew1) | exact HB.out)) hb); have n1_ := Aside0.mk (hbox); have n2_ := Aside0.mk ((by rw [hg]; exact (below_size (by repeat (first | (with_reducible first | exact HB.out | apply below_alloc | apply pw_below_drewN | apply below_drew1) | exact HB.out))) : w.heap.size ≤ gb237)); have n3_ := Aside0.mk ((by rw [hg]; exact (below_size (by repeat (first | (with_reducible first | exact HB.out | apply below_alloc | apply pw_below_drewN | apply below_drew1) | exact HB.out))) : w.heap.size ≤ gb237)); clear HB; have HB := n0_; have BK237 := n1_; have GW237 := n2_; have GE237 := n3_; clear n0_ n1_ n2_ n3_; clear hb hbox hg; have hcz6_0 : w5.cell? ⟨gb237, 0, none⟩ = some (.int .i64 0) := (blk_cell BK237.out 0).trans rfl; have hcz6_1 : w5.cell? ⟨gb237, 1, none⟩ = some (.int .i64 0) := (blk_cell BK237.out 1).trans rfl; have hcz6_2 : w5.cell? ⟨gb237, 2, none⟩ = some (.string (⟨#[]⟩ : ByteArray)) := (blk_cell BK237.out 2).trans rfl; have hcz6_3 : w5.cell? ⟨gb237, 3, none⟩ = some (.int .i64 0) := (blk_cell BK237.out 3).trans rfl; have hfz6_0 := blk_frozen BK237.out 0; have hfz6_1 := blk_frozen BK237.out 1; have hfz6_2 := blk_frozen BK237.out 2; have hfz6_3 := blk_frozen BK237.out 3))
  refine bodyPost_ret (results_cell_row rfl _ _ gb237 41 #[.int .i64 a0, .int .i64 a1, .string a2, .int .i64 a3] (0, 0) _ rfl (by (with_reducible repeat (first | refine blk_drewN ?_ _ | refine blk_drew ?_ | refine blk_alloc ?_ _)); refine blk_put (cs := #[.int .i64 a0, .int .i64 a1, .string a2, .int .i64 0]) ?_ 3 _ rfl; (with_reducible repeat (first | refine blk_drewN ?_ _ | refine blk_drew ?_ | refine blk_alloc ?_ _)); refine blk_put (cs := #[.int .i64 a0, .int .i64 a1, .string (⟨#[]⟩ : ByteArray), .int .i64 0]) ?_ 2 _ rfl; (with_reducible repeat (first | refine blk_drewN ?_ _ | refine blk_drew ?_ | refine blk_alloc ?_ _)); refine blk_put (cs := #[.int .i64 a0, .int .i64 0, .string (⟨#[]⟩ : ByteArray), .int .i64 0]) ?_ 1 _ rfl; (with_reducible repeat (first | refine blk_drewN ?_ _ | refine blk_drew ?_ | refine blk_alloc ?_ _)); refine blk_put (cs := #[.int .i64 0, .int .i64 0, .string (⟨#[]⟩ : ByteArray), .int .i64 0]) ?_ 0 _ rfl; (with_reducible repeat (first | refine blk_drewN ?_ _ | refine blk_drew ?_ | refine blk_alloc ?_ _)); exact BK237.out) Try.underlying41 rfl (by kernel_rfl)) rfl ?_
  exact ⟨by first | rfl | (simp [errW_none, errW_some] <;> rfl) | (simp [*, errW_none, errW_some] <;> rfl), by repeat (first | (with_reducible first | exact HB.out | apply below_alloc | apply pw_below_drewN | apply below_drew1 | refine below_set ?_ GE237.out) | exact HB.out)⟩

end Go.Proofs.Ytepkmbbeaaljlaa.X
