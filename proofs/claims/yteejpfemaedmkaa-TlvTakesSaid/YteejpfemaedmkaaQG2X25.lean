-- Written by wip/printx.py: the kit's printer with functions proved by hand. Not trusted: Lean checks it.
import Derived.Test.YteejpfemaedmkaaQG2X0
import Derived.Test.YteejpfemaedmkaaQG2X8
import Derived.Test.YteejpfemaedmkaaQG2X22
import Derived.Test.YteejpfemaedmkaaQG2X24
namespace Go.Proofs.Yteejpfemaedmkaa.X
open Go.RowKit Go.Proofs.YteejpfemaedmkaaW.PrintWords Go.Proofs.YteejpfemaedmkaaW.PrintLast Go.Proofs.YteejpfemaedmkaaW.PrintMore
attribute [local go_sem] max2_int min2_int max_two min_two max_three min_three max_four min_four
set_option linter.unusedVariables false
set_option linter.unusedSimpArgs false
attribute [local go_sem] vx_gtr vx_leq vx_geq
def stratumlaw05_lives0.j0 : Nat → List Int → Bool → Option (Bool)
 | 0, _, _ => none
 | k + 1, x1, x20 => if x20 = true then (some false) else ((tlv_Decode.f k x1).bind fun bt579 => ((stratumlaw05_small.f).bind fun t583 => ((tlv_Size.f k t583).bind fun bt586 => ((tlv_Check.f k (([(⟨2, (⟨0, 0, (⟨#[]⟩ : ByteArray)⟩ : S51)⟩ : S53), (⟨1, (⟨0, 0, (⟨#[]⟩ : ByteArray)⟩ : S51)⟩ : S53)] : List (S53)))).bind fun bt591 => (if bt579.2 = 0 then ((stratumlaw05_small.f).bind fun t593 => ((stratumlaw05_same.f k bt579.1 t593).bind fun t596 => (if t596 = true then (if bt586.1 = 9 then (if bt586.2 = 0 then (if bt591.1 = 0 then (some (bt591.2 == 1)) else (some false)) else (some false)) else (some false)) else (some false)))) else (some false))))))
def stratumlaw05_lives0.f (k : Nat)  : Option (Bool) := (stratumlaw05_small.f).bind fun t568 => ((tlv_Encode.f k t568).bind fun bt571 => (if bt571.2 = 0 then ((stratumlaw05_alike.f bt571.1 (([9, 2, 172, 2, 132, 1, 2, 97, 98] : List Int))).bind fun t578 => (stratumlaw05_lives0.j0 k bt571.1 (!t578))) else (stratumlaw05_lives0.j0 k bt571.1 true)))
theorem stratumlaw05_lives0.mono_l : ∀ k, (∀ y0 y1, LeO (stratumlaw05_lives0.j0 k y0 y1) (stratumlaw05_lives0.j0 (k + 1) y0 y1))
 | 0 => fun _ _ r h => by simp [stratumlaw05_lives0.j0] at h
 | k + 1 => by
  have ih0 := stratumlaw05_lives0.mono_l k
  ·intro y0 y1
   unfold stratumlaw05_lives0.j0
   repeat' first
   | (with_reducible exact ih0 _ _)
   | (with_reducible exact stratumlaw05_same.mono _ _ _)
   | (with_reducible exact tlv_Check.mono _ _)
   | (with_reducible exact tlv_Decode.mono _ _)
   | (with_reducible exact tlv_Encode.mono _ _)
   | (with_reducible exact tlv_Size.mono _ _)
   | (with_reducible exact LeO.refl _)
   | (with_reducible exact LeO.none _)
   | (with_reducible refine LeO.ite ?_ ?_)
   | (with_reducible refine LeO.bind ?_ (fun _ => ?_))
   | exact ih0 _ _
   | exact stratumlaw05_same.mono _ _ _
   | exact tlv_Check.mono _ _
   | exact tlv_Decode.mono _ _
   | exact tlv_Encode.mono _ _
   | exact tlv_Size.mono _ _
   | exact LeO.none _
   | refine LeO.ite ?_ ?_
   | refine LeO.bind ?_ (fun _ => ?_)
theorem stratumlaw05_lives0.mono : ∀ k, LeO (stratumlaw05_lives0.f k ) (stratumlaw05_lives0.f (k + 1) ) := by
 intro  k
 have ih0 := stratumlaw05_lives0.mono_l k
 unfold stratumlaw05_lives0.f
 repeat' first
   | (with_reducible exact ih0 _ _)
   | (with_reducible exact stratumlaw05_same.mono _ _ _)
   | (with_reducible exact tlv_Check.mono _ _)
   | (with_reducible exact tlv_Decode.mono _ _)
   | (with_reducible exact tlv_Encode.mono _ _)
   | (with_reducible exact tlv_Size.mono _ _)
   | (with_reducible exact LeO.refl _)
   | (with_reducible exact LeO.none _)
   | (with_reducible refine LeO.ite ?_ ?_)
   | (with_reducible refine LeO.bind ?_ (fun _ => ?_))
   | exact ih0 _ _
   | exact stratumlaw05_same.mono _ _ _
   | exact tlv_Check.mono _ _
   | exact tlv_Decode.mono _ _
   | exact tlv_Encode.mono _ _
   | exact tlv_Size.mono _ _
   | exact LeO.none _
   | refine LeO.ite ?_ ?_
   | refine LeO.bind ?_ (fun _ => ?_)
set_option maxHeartbeats 8000000 in
set_option maxRecDepth 100000 in
theorem stratumlaw05_lives0.calls (k : Nat)  (r : Bool) (w : World) (h : stratumlaw05_lives0.f k  = some r) (hr_ : Aside0 (r = true)) :
  Calls Try.prog 30 #[] w fun e w' => e = .returned (.bool r) ∧ Below w.heap.size w w' := by
 have hu53 := Try.underlying53
 have HB := Aside0.mk (Below.refl w.heap.size w)
 have H : ((stratumlaw05_small.f).bind fun t568 => ((tlv_Encode.f k t568).bind fun bt571 => (if bt571.2 = 0 then ((stratumlaw05_alike.f bt571.1 (([9, 2, 172, 2, 132, 1, 2, 97, 98] : List Int))).bind fun t578 => (stratumlaw05_lives0.j0 k bt571.1 (!t578))) else (stratumlaw05_lives0.j0 k bt571.1 true)))) = some r := h
 clear h
 replace H := Option.bind_eq_some_iff.mp H
 obtain ⟨t568, A10, H⟩ := H
 replace H : ((tlv_Encode.f k t568).bind fun bt571 => (if bt571.2 = 0 then ((stratumlaw05_alike.f bt571.1 (([9, 2, 172, 2, 132, 1, 2, 97, 98] : List Int))).bind fun t578 => (stratumlaw05_lives0.j0 k bt571.1 (!t578))) else (stratumlaw05_lives0.j0 k bt571.1 true))) = some r := H
 have A1 := Aside0.mk A10
 clear A10
 replace H := Option.bind_eq_some_iff.mp H
 obtain ⟨⟨t571, t572⟩, A20, H⟩ := H
 replace H : (if t572 = 0 then ((stratumlaw05_alike.f t571 (([9, 2, 172, 2, 132, 1, 2, 97, 98] : List Int))).bind fun t578 => (stratumlaw05_lives0.j0 k t571 (!t578))) else (stratumlaw05_lives0.j0 k t571 true)) = some r := H
 have A2 := Aside0.mk A20
 clear A20
 have HC3 := Aside0.mk H
 clear H
 go_enter Try.func30, Try.ntmps30
 go_upto_region 2 with (first | ((with_reducible refine gate_callee (f := 57) rfl ?_); refine goesL_ (some 9) rfl rfl Try.func57 (by kernel_rfl) rfl #[] rfl (by (try simp only [List.map_toArray, List.map_cons, List.map_nil]); first | done | rfl | (simp only [List.length_drop, List.length_take]; rfl)) ?_; (with_reducible refine (stratumlaw05_small.calls  t568 _ A1.out).mono ?_); rintro e w4 ⟨v569, rfl, ho0, hb⟩; refine ⟨_, rfl, ?_⟩; have n0_ := Aside0.mk (Kd.R_lower ho0 (below_size (by repeat (first | (with_reducible first | exact HB.out | apply below_alloc | apply pw_below_drewN | apply below_drew1) | exact HB.out)))); have n1_ := Aside0.mk (below_step (by repeat (first | (with_reducible first | exact HB.out | apply below_alloc | apply pw_below_drewN | apply below_drew1) | exact HB.out)) hb); clear HB; have HO570 := n0_; have HB := n1_; clear n0_ n1_; (try clear hb); (try clear hb2); (try clear hk); (try clear hi); (try clear ho0); obtain ⟨Ao5, co5, eo5⟩ := Kd.R_slice HO570.out; subst eo5) | ((with_reducible refine gate_callee (f := 35) rfl ?_); refine goesL_ (some 10) rfl rfl Try.func35 (by kernel_rfl) rfl #[.slice Ao5 t568.length co5] rfl (by (try simp only [List.map_toArray, List.map_cons, List.map_nil]); first | done | rfl | (simp only [List.length_drop, List.length_take]; rfl)) ?_; (with_reducible refine (tlv_Encode.calls k _ _ t568 t571 t572 _ ?side1 ?side2 A2.out).mono ?_); (case side1 => repeat (first | exact (Kd.R_reads' HO570.out).2.2 | (with_reducible refine Kd.C_alloc ?_ _) | (with_reducible refine Kd.C_drewN ?_ _) | (with_reducible refine Kd.C_drew ?_))); (case side2 => exact (Kd.R_reads' HO570.out).2.1); rintro e w6 ⟨v573, rfl, ho0, hb⟩; refine ⟨_, rfl, ?_⟩; have n0_ := Aside0.mk (Kd.R_below (by (with_reducible repeat (first | apply Kd.R_alloc | apply Kd.R_drewN | apply Kd.R_drew)); exact HO570.out) hb); have n1_ := Aside0.mk (Kd.R_lower ho0 (below_size (by repeat (first | (with_reducible first | exact HB.out | apply below_alloc | apply pw_below_drewN | apply below_drew1) | exact HB.out)))); have n2_ := Aside0.mk (below_step (by repeat (first | (with_reducible first | exact HB.out | apply below_alloc | apply pw_below_drewN | apply below_drew1) | exact HB.out)) hb); clear HO570; clear HB; have HO570 := n0_; have HO574 := n1_; have HB := n2_; clear n0_ n1_ n2_; (try clear hb); (try clear hb2); (try clear hk); (try clear hi); (try clear ho0)))
 (try simp only [Act.put, List.setIfInBounds_toArray, List.set_cons_zero, List.set_cons_succ])
 go_cut [20] (fun v20 wc => ∃ (kq : Nat) (x20_2 : Bool), v20 = .bool x20_2 ∧ Aside0 (stratumlaw05_lives0.j0 kq t571 x20_2 = some r) ∧ Aside0 (kq ≤ k) ∧ Aside0 (Kd.R (Kd.int .u8) 5 wc w.heap.size (fun _ => True) v573 t571) ∧ Aside0 (Below w.heap.size w wc))
 case first =>
  have H := HC3.out
  clear HC3
  by_cases c7 : t572 = 0
  ·rw [if_pos c7] at H
   have c7b0 : (t572 == 0) = true := beq_iff_eq.mpr c7
   have c7b1 : (t572 != 0) = false := bne_eq_false_iff_eq.mpr c7
   clear c7
   (first | rw [c7b0] | (simp only [i64_w, i32_w]; rw [c7b0]) | skip)
   obtain ⟨y575, hy575⟩ : ∃ y_ : List Int, y_ = (([9, 2, 172, 2, 132, 1, 2, 97, 98] : List Int)) := ⟨_, rfl⟩
   replace H : ((stratumlaw05_alike.f t571 y575).bind fun t578 => (stratumlaw05_lives0.j0 k t571 (!t578))) = some r := by first | (rw [hy575]; with_reducible exact H) | (have H2_ := (Option.bind_some _ _).symm.trans H; rw [hy575]; with_reducible exact H2_) | (have H2_ := (Option.bind_some _ _).symm.trans H; with_reducible exact H2_) | with_reducible exact H | (rw [hy575]; exact H) | exact H
   have Ny575 := Aside0.mk hy575
   clear hy575
   replace H := Option.bind_eq_some_iff.mp H
   obtain ⟨t578, A80, H⟩ := H
   replace H : (stratumlaw05_lives0.j0 k t571 (!t578)) = some r := H
   have A8 := Aside0.mk A80
   clear A80
   have H' := Aside0.mk H
   clear H
   go_wp2_with (first | ((with_reducible refine gate_dst (N := 17) rfl ?_); (try (refine gate_guard (by rfl) ?_; dsimp only)); refine Kd.R_lit (Kd.int .u8) _ 5 ?hg (N := 17) ?hd (xs := ([9, 2, 172, 2, 132, 1, 2, 97, 98] : List Int)) (inner := [.int .u8 9, .int .u8 2, .int .u8 172, .int .u8 2, .int .u8 132, .int .u8 1, .int .u8 2, .int .u8 97, .int .u8 98]) (ok := fun _ => True) (okp := fun _ => True) ?hr ?hp (fun _ hk => hk) trivial (Below.refl _ _) (Nat.le_refl _) (by simp) ?_; (case hd => rfl); (case hg => rfl); (case hr => first | (go_simp; done) | (go_simp; rfl)); (case hp => exact (Reps.one (show Kd.M (Kd.int .u8) _ _ _ 9 [.int .u8 9] from rfl) (Reps.one (show Kd.M (Kd.int .u8) _ _ _ 2 [.int .u8 2] from rfl) (Reps.one (show Kd.M (Kd.int .u8) _ _ _ 172 [.int .u8 172] from rfl) (Reps.one (show Kd.M (Kd.int .u8) _ _ _ 2 [.int .u8 2] from rfl) (Reps.one (show Kd.M (Kd.int .u8) _ _ _ 132 [.int .u8 132] from rfl) (Reps.one (show Kd.M (Kd.int .u8) _ _ _ 1 [.int .u8 1] from rfl) (Reps.one (show Kd.M (Kd.int .u8) _ _ _ 2 [.int .u8 2] from rfl) (Reps.one (show Kd.M (Kd.int .u8) _ _ _ 97 [.int .u8 97] from rfl) (Reps.one (show Kd.M (Kd.int .u8) _ _ _ 98 [.int .u8 98] from rfl) (Reps.none _ _))))))))))); intro v576 w9 ho10 hb hg_ hnew_; clear hg_ hnew_; (first | rw [← Ny575.out] at ho10 | (simp only [Int.reduceToNat] at ho10; rw [← Ny575.out] at ho10)); have n0_ := Aside0.mk (Kd.R_below (by (with_reducible repeat (first | apply Kd.R_alloc | apply Kd.R_drewN | apply Kd.R_drew)); exact HO570.out) hb); have n1_ := Aside0.mk (Kd.R_elder' (by (with_reducible repeat (first | apply Kd.R_alloc | apply Kd.R_drewN | apply Kd.R_drew)); exact HO574.out) (Kd.R_base ho10) hb); have n2_ := Aside0.mk (Kd.R_lower (Kd.R_new' ho10 (Kd.R_lt (by (with_reducible repeat (first | apply Kd.R_alloc | apply Kd.R_drewN | apply Kd.R_drew)); exact HO574.out))) (below_size (by repeat (first | (with_reducible first | exact HB.out | apply below_alloc | apply pw_below_drewN | apply below_drew1) | exact HB.out)))); have n3_ := Aside0.mk (below_step (by repeat (first | (with_reducible first | exact HB.out | apply below_alloc | apply pw_below_drewN | apply below_drew1) | exact HB.out)) hb); clear HO570; clear HO574; clear HB; have HO570 := n0_; have HO574 := n1_; have HO577 := n2_; have HB := n3_; clear n0_ n1_ n2_ n3_; clear hb ho10; obtain ⟨Ao11, co11, eo11⟩ := Kd.R_slice HO574.out; subst eo11; obtain ⟨Ao12, co12, eo12⟩ := Kd.R_slice HO577.out; subst eo12) | (go_at_call 38; (with_reducible refine (stratumlaw05_alike.calls _ _ t571 _ _ y575 t578 _ ?side1 ?side2 ?side3 ?side4 A8.out).mono ?_); (case side1 => repeat (first | exact (Kd.R_reads' HO574.out).2.2 | (with_reducible refine Kd.C_alloc ?_ _) | (with_reducible refine Kd.C_drewN ?_ _) | (with_reducible refine Kd.C_drew ?_))); (case side2 => exact (Kd.R_reads' HO574.out).2.1); (case side3 => repeat (first | exact (Kd.R_reads' HO577.out).2.2 | (with_reducible refine Kd.C_alloc ?_ _) | (with_reducible refine Kd.C_drewN ?_ _) | (with_reducible refine Kd.C_drew ?_))); (case side4 => exact (Kd.R_reads' HO577.out).2.1); rintro e w' ⟨rfl, ⟨nd, rfl⟩⟩))
   go_meet
   case rel => exact ⟨_, (!t578), (by first | rfl | (simp; done) | (simp [*]; done)), H', ⟨by first | omega | exact Nat.le_refl _⟩, ⟨by (with_reducible repeat (first | apply Kd.R_alloc | apply Kd.R_drewN | apply Kd.R_drew)); exact Kd.R_mono HO574.out (fun _ hk => trivial)⟩, ⟨by repeat (first | (with_reducible first | exact HB.out | apply below_alloc | apply pw_below_drewN | apply below_drew1) | exact HB.out)⟩⟩
  ·rw [if_neg c7] at H
   have c7b0 : (t572 == 0) = false := beq_eq_false_iff_ne.mpr c7
   have c7b1 : (t572 != 0) = true := bne_iff_ne.mpr c7
   (first | rw [c7b0] | (simp only [i64_w, i32_w]; rw [c7b0]) | skip)
   have H' := Aside0.mk H
   clear H
   go_wp2
   go_meet
   case rel => exact ⟨_, (true), (by first | rfl | (simp; done) | (simp [*]; done)), H', ⟨by first | omega | exact Nat.le_refl _⟩, ⟨by (with_reducible repeat (first | apply Kd.R_alloc | apply Kd.R_drewN | apply Kd.R_drew)); exact HO574.out⟩, ⟨by repeat (first | (with_reducible first | exact HB.out | apply below_alloc | apply pw_below_drewN | apply below_drew1) | exact HB.out)⟩⟩
 case rest =>
  clear HC3
  try clear p2
  try clear c3
  try clear c5
  try clear c7
  try clear c7b0
  try clear c7b1
  obtain ⟨kq, x20_2, rfl, HA, HJ2, HO_1, HB⟩ := hcut
  cases kq with
  | zero => exact absurd HA.out (by simp [stratumlaw05_lives0.j0])
  | succ kj2 =>
   have H := HA.out
   clear HA
   simp only [stratumlaw05_lives0.j0] at H
   by_cases c13 : x20_2 = true
   ·subst c13
    have H1 : (some false) = some r := by rw [if_pos rfl] at H; exact H
    clear H
    have H := H1
    clear H1
    exact absurd ((Option.some.inj H).trans hr_.out) (by simp)
   ·replace c13 := Bool.eq_false_iff.mpr c13
    subst c13
    have H1 : ((tlv_Decode.f kj2 t571).bind fun bt579 => ((stratumlaw05_small.f).bind fun t583 => ((tlv_Size.f kj2 t583).bind fun bt586 => ((tlv_Check.f kj2 (([(⟨2, (⟨0, 0, (⟨#[]⟩ : ByteArray)⟩ : S51)⟩ : S53), (⟨1, (⟨0, 0, (⟨#[]⟩ : ByteArray)⟩ : S51)⟩ : S53)] : List (S53)))).bind fun bt591 => (if bt579.2 = 0 then ((stratumlaw05_small.f).bind fun t593 => ((stratumlaw05_same.f kj2 bt579.1 t593).bind fun t596 => (if t596 = true then (if bt586.1 = 9 then (if bt586.2 = 0 then (if bt591.1 = 0 then (some (bt591.2 == 1)) else (some false)) else (some false)) else (some false)) else (some false)))) else (some false)))))) = some r := by rw [if_neg (show ¬ (false = true) by decide)] at H; exact H
    clear H
    have H := H1
    clear H1
    replace H := Option.bind_eq_some_iff.mp H
    obtain ⟨⟨t579, t582⟩, A140, H⟩ := H
    replace H : ((stratumlaw05_small.f).bind fun t583 => ((tlv_Size.f kj2 t583).bind fun bt586 => ((tlv_Check.f kj2 (([(⟨2, (⟨0, 0, (⟨#[]⟩ : ByteArray)⟩ : S51)⟩ : S53), (⟨1, (⟨0, 0, (⟨#[]⟩ : ByteArray)⟩ : S51)⟩ : S53)] : List (S53)))).bind fun bt591 => (if t582 = 0 then ((stratumlaw05_small.f).bind fun t593 => ((stratumlaw05_same.f kj2 t579 t593).bind fun t596 => (if t596 = true then (if bt586.1 = 9 then (if bt586.2 = 0 then (if bt591.1 = 0 then (some (bt591.2 == 1)) else (some false)) else (some false)) else (some false)) else (some false)))) else (some false))))) = some r := H
    have A14 := Aside0.mk A140
    clear A140
    replace H := Option.bind_eq_some_iff.mp H
    obtain ⟨t583, A150, H⟩ := H
    replace H : ((tlv_Size.f kj2 t583).bind fun bt586 => ((tlv_Check.f kj2 (([(⟨2, (⟨0, 0, (⟨#[]⟩ : ByteArray)⟩ : S51)⟩ : S53), (⟨1, (⟨0, 0, (⟨#[]⟩ : ByteArray)⟩ : S51)⟩ : S53)] : List (S53)))).bind fun bt591 => (if t582 = 0 then ((stratumlaw05_small.f).bind fun t593 => ((stratumlaw05_same.f kj2 t579 t593).bind fun t596 => (if t596 = true then (if bt586.1 = 9 then (if bt586.2 = 0 then (if bt591.1 = 0 then (some (bt591.2 == 1)) else (some false)) else (some false)) else (some false)) else (some false)))) else (some false)))) = some r := H
    have A15 := Aside0.mk A150
    clear A150
    replace H := Option.bind_eq_some_iff.mp H
    obtain ⟨⟨t586, t587⟩, A160, H⟩ := H
    replace H : ((tlv_Check.f kj2 (([(⟨2, (⟨0, 0, (⟨#[]⟩ : ByteArray)⟩ : S51)⟩ : S53), (⟨1, (⟨0, 0, (⟨#[]⟩ : ByteArray)⟩ : S51)⟩ : S53)] : List (S53)))).bind fun bt591 => (if t582 = 0 then ((stratumlaw05_small.f).bind fun t593 => ((stratumlaw05_same.f kj2 t579 t593).bind fun t596 => (if t596 = true then (if t586 = 9 then (if t587 = 0 then (if bt591.1 = 0 then (some (bt591.2 == 1)) else (some false)) else (some false)) else (some false)) else (some false)))) else (some false))) = some r := H
    have A16 := Aside0.mk A160
    clear A160
    obtain ⟨y588, hy588⟩ : ∃ y_ : List (S53), y_ = (([(⟨2, (⟨0, 0, (⟨#[]⟩ : ByteArray)⟩ : S51)⟩ : S53), (⟨1, (⟨0, 0, (⟨#[]⟩ : ByteArray)⟩ : S51)⟩ : S53)] : List (S53))) := ⟨_, rfl⟩
    replace H : ((tlv_Check.f kj2 y588).bind fun bt591 => (if t582 = 0 then ((stratumlaw05_small.f).bind fun t593 => ((stratumlaw05_same.f kj2 t579 t593).bind fun t596 => (if t596 = true then (if t586 = 9 then (if t587 = 0 then (if bt591.1 = 0 then (some (bt591.2 == 1)) else (some false)) else (some false)) else (some false)) else (some false)))) else (some false))) = some r := by first | (rw [hy588]; with_reducible exact H) | (have H2_ := (Option.bind_some _ _).symm.trans H; rw [hy588]; with_reducible exact H2_) | (have H2_ := (Option.bind_some _ _).symm.trans H; with_reducible exact H2_) | with_reducible exact H | (rw [hy588]; exact H) | exact H
    have Ny588 := Aside0.mk hy588
    clear hy588
    replace H := Option.bind_eq_some_iff.mp H
    obtain ⟨⟨t591, t592⟩, A170, H⟩ := H
    replace H : (if t582 = 0 then ((stratumlaw05_small.f).bind fun t593 => ((stratumlaw05_same.f kj2 t579 t593).bind fun t596 => (if t596 = true then (if t586 = 9 then (if t587 = 0 then (if t591 = 0 then (some (t592 == 1)) else (some false)) else (some false)) else (some false)) else (some false)))) else (some false)) = some r := H
    have A17 := Aside0.mk A170
    clear A170
    by_cases c18 : t582 = 0
    ·rw [if_pos c18] at H
     have c18b0 : (t582 == 0) = true := beq_iff_eq.mpr c18
     have c18b1 : (t582 != 0) = false := bne_eq_false_iff_eq.mpr c18
     clear c18
     replace H := Option.bind_eq_some_iff.mp H
     obtain ⟨t593, A190, H⟩ := H
     replace H : ((stratumlaw05_same.f kj2 t579 t593).bind fun t596 => (if t596 = true then (if t586 = 9 then (if t587 = 0 then (if t591 = 0 then (some (t592 == 1)) else (some false)) else (some false)) else (some false)) else (some false))) = some r := H
     have A19 := Aside0.mk A190
     clear A190
     replace H := Option.bind_eq_some_iff.mp H
     obtain ⟨t596, A200, H⟩ := H
     replace H : (if t596 = true then (if t586 = 9 then (if t587 = 0 then (if t591 = 0 then (some (t592 == 1)) else (some false)) else (some false)) else (some false)) else (some false)) = some r := H
     have A20 := Aside0.mk A200
     clear A200
     by_cases c21 : t596 = true
     ·subst c21
      have H1 : (if t586 = 9 then (if t587 = 0 then (if t591 = 0 then (some (t592 == 1)) else (some false)) else (some false)) else (some false)) = some r := by rw [if_pos rfl] at H; exact H
      clear H
      have H := H1
      clear H1
      by_cases c22 : t586 = 9
      ·rw [if_pos c22] at H
       have c22b0 : (t586 == 9) = true := beq_iff_eq.mpr c22
       have c22b1 : (t586 != 9) = false := bne_eq_false_iff_eq.mpr c22
       clear c22
       by_cases c23 : t587 = 0
       ·rw [if_pos c23] at H
        have c23b0 : (t587 == 0) = true := beq_iff_eq.mpr c23
        have c23b1 : (t587 != 0) = false := bne_eq_false_iff_eq.mpr c23
        clear c23
        by_cases c24 : t591 = 0
        ·rw [if_pos c24] at H
         have c24b0 : (t591 == 0) = true := beq_iff_eq.mpr c24
         have c24b1 : (t591 != 0) = false := bne_eq_false_iff_eq.mpr c24
         clear c24
         obtain rfl := Option.some.inj H
         obtain ⟨Ao25, co25, eo25⟩ := Kd.R_slice HO_1.out
         subst eo25
         go_wp2_with (first | ((with_reducible refine gate_callee (f := 40) rfl ?_); refine goesL_ (some 23) rfl rfl Try.func40 (by kernel_rfl) rfl #[.slice Ao25 t571.length co25] rfl (by (try simp only [List.map_toArray, List.map_cons, List.map_nil]); first | done | rfl | (simp only [List.length_drop, List.length_take]; rfl)) ?_; (with_reducible refine (tlv_Decode.calls kj2 (fun k_ => some k_ = (.slice Ao25 t571.length co25 : Value).ownBlock) _ _ t571 t579 t582 _ ?side1 A14.out).mono ?_); (case side1 => exact Kd.R_V (Kd.R_tight rfl (HO_1.out))); rintro e w26 ⟨v580, rfl, ho0, hb⟩; refine ⟨_, rfl, ?_⟩; have n0_ := Aside0.mk (Kd.R_below (by (with_reducible repeat (first | apply Kd.R_alloc | apply Kd.R_drewN | apply Kd.R_drew)); exact HO_1.out) hb); have n1_ := Aside0.mk (Kd.R_lower (Kd.R_mono (ok' := fun k_ => True) ho0 (fun _ hk_ => trivial)) (below_size (by repeat (first | (with_reducible first | exact HB.out | apply below_alloc | apply pw_below_drewN | apply below_drew1) | exact HB.out)))); have n2_ := Aside0.mk (below_step (by repeat (first | (with_reducible first | exact HB.out | apply below_alloc | apply pw_below_drewN | apply below_drew1) | exact HB.out)) hb); clear HO_1; clear HB; have HO_1 := n0_; have HO581 := n1_; have HB := n2_; clear n0_ n1_ n2_; (try clear hb); (try clear hb2); (try clear hk); (try clear hi); (try clear ho0)) | ((with_reducible refine gate_callee (f := 57) rfl ?_); refine goesL_ (some 27) rfl rfl Try.func57 (by kernel_rfl) rfl #[] rfl (by (try simp only [List.map_toArray, List.map_cons, List.map_nil]); first | done | rfl | (simp only [List.length_drop, List.length_take]; rfl)) ?_; (with_reducible refine (stratumlaw05_small.calls  t583 _ A15.out).mono ?_); rintro e w27 ⟨v584, rfl, ho0, hb⟩; refine ⟨_, rfl, ?_⟩; have n0_ := Aside0.mk (Kd.R_below (by (with_reducible repeat (first | apply Kd.R_alloc | apply Kd.R_drewN | apply Kd.R_drew)); exact HO_1.out) hb); have n1_ := Aside0.mk (Kd.R_elder' (by (with_reducible repeat (first | apply Kd.R_alloc | apply Kd.R_drewN | apply Kd.R_drew)); exact HO581.out) (Kd.R_base ho0) hb); have n2_ := Aside0.mk (Kd.R_lower (Kd.R_new' ho0 (Kd.R_lt (by (with_reducible repeat (first | apply Kd.R_alloc | apply Kd.R_drewN | apply Kd.R_drew)); exact HO581.out))) (below_size (by repeat (first | (with_reducible first | exact HB.out | apply below_alloc | apply pw_below_drewN | apply below_drew1) | exact HB.out)))); have n3_ := Aside0.mk (below_step (by repeat (first | (with_reducible first | exact HB.out | apply below_alloc | apply pw_below_drewN | apply below_drew1) | exact HB.out)) hb); clear HO_1; clear HO581; clear HB; have HO_1 := n0_; have HO581 := n1_; have HO585 := n2_; have HB := n3_; clear n0_ n1_ n2_ n3_; (try clear hb); (try clear hb2); (try clear hk); (try clear hi); (try clear ho0); obtain ⟨Ao28, co28, eo28⟩ := Kd.R_slice HO585.out; subst eo28) | ((with_reducible refine gate_callee (f := 37) rfl ?_); refine goesL_ (some 28) rfl rfl Try.func37 (by kernel_rfl) rfl #[.slice Ao28 t583.length co28] rfl (by (try simp only [List.map_toArray, List.map_cons, List.map_nil]); first | done | rfl | (simp only [List.length_drop, List.length_take]; rfl)) ?_; (with_reducible refine (tlv_Size.calls kj2 _ _ t583 t586 t587 _ ?side1 ?side2 A16.out).mono ?_); (case side1 => repeat (first | exact (Kd.R_reads' HO585.out).2.2 | (with_reducible refine Kd.C_alloc ?_ _) | (with_reducible refine Kd.C_drewN ?_ _) | (with_reducible refine Kd.C_drew ?_))); (case side2 => exact (Kd.R_reads' HO585.out).2.1); rintro e w29 ⟨rfl, hb⟩; refine ⟨_, rfl, ?_⟩; have n0_ := Aside0.mk (Kd.R_below (by (with_reducible repeat (first | apply Kd.R_alloc | apply Kd.R_drewN | apply Kd.R_drew)); exact HO_1.out) hb); have n1_ := Aside0.mk (Kd.R_below (by (with_reducible repeat (first | apply Kd.R_alloc | apply Kd.R_drewN | apply Kd.R_drew)); exact HO581.out) hb); have n2_ := Aside0.mk (Kd.R_below (by (with_reducible repeat (first | apply Kd.R_alloc | apply Kd.R_drewN | apply Kd.R_drew)); exact HO585.out) hb); have n3_ := Aside0.mk (below_step (by repeat (first | (with_reducible first | exact HB.out | apply below_alloc | apply pw_below_drewN | apply below_drew1) | exact HB.out)) hb); clear HO_1; clear HO581; clear HO585; clear HB; have HO_1 := n0_; have HO581 := n1_; have HO585 := n2_; have HB := n3_; clear n0_ n1_ n2_ n3_; (try clear hb); (try clear hb2); (try clear hk); (try clear hi)) | ((with_reducible refine gate_dst (N := 34) rfl ?_); (try (refine gate_guard (by rfl) ?_; dsimp only)); refine Kd.R_lit k53 _ 53 ?hg (N := 34) ?hd (xs := ([(⟨2, (⟨0, 0, (⟨#[]⟩ : ByteArray)⟩ : S51)⟩ : S53), (⟨1, (⟨0, 0, (⟨#[]⟩ : ByteArray)⟩ : S51)⟩ : S53)] : List (S53))) (inner := [.int .i64 2, .int .i64 0, .int .u64 0, .string (⟨#[]⟩ : ByteArray), .int .i64 1, .int .i64 0, .int .u64 0, .string (⟨#[]⟩ : ByteArray)]) (ok := fun _ => True) (okp := fun _ => True) ?hr ?hp (fun _ hk => hk) trivial (Below.refl _ _) (Nat.le_refl _) (by simp) ?_; (case hd => rfl); (case hg => rfl); (case hr => first | (go_simp; done) | (go_simp; rfl)); (case hp => exact (Reps.c4 (show Kd.M k53 _ _ _ (⟨2, (⟨0, 0, (⟨#[]⟩ : ByteArray)⟩ : S51)⟩ : S53) [.int .i64 2, .int .i64 0, .int .u64 0, .string (⟨#[]⟩ : ByteArray)] from (k53_mkM _ _ _ (⟨2, (⟨0, 0, (⟨#[]⟩ : ByteArray)⟩ : S51)⟩ : S53) )) (Reps.c4 (show Kd.M k53 _ _ _ (⟨1, (⟨0, 0, (⟨#[]⟩ : ByteArray)⟩ : S51)⟩ : S53) [.int .i64 1, .int .i64 0, .int .u64 0, .string (⟨#[]⟩ : ByteArray)] from (k53_mkM _ _ _ (⟨1, (⟨0, 0, (⟨#[]⟩ : ByteArray)⟩ : S51)⟩ : S53) )) (Reps.none _ _)))); intro v589 w30 ho31 hb hg_ hnew_; clear hg_ hnew_; (first | rw [← Ny588.out] at ho31 | (simp only [Int.reduceToNat] at ho31; rw [← Ny588.out] at ho31)); have n0_ := Aside0.mk (Kd.R_below (by (with_reducible repeat (first | apply Kd.R_alloc | apply Kd.R_drewN | apply Kd.R_drew)); exact HO_1.out) hb); have n1_ := Aside0.mk (Kd.R_elder' (by (with_reducible repeat (first | apply Kd.R_alloc | apply Kd.R_drewN | apply Kd.R_drew)); exact HO581.out) (Kd.R_base ho31) hb); have n2_ := Aside0.mk (Kd.R_elder' (by (with_reducible repeat (first | apply Kd.R_alloc | apply Kd.R_drewN | apply Kd.R_drew)); exact HO585.out) (Kd.R_base ho31) hb); have n3_ := Aside0.mk (Kd.R_lower (Kd.R_new' (Kd.R_new' ho31 (Kd.R_lt (by (with_reducible repeat (first | apply Kd.R_alloc | apply Kd.R_drewN | apply Kd.R_drew)); exact HO581.out))) (Kd.R_lt (by (with_reducible repeat (first | apply Kd.R_alloc | apply Kd.R_drewN | apply Kd.R_drew)); exact HO585.out))) (below_size (by repeat (first | (with_reducible first | exact HB.out | apply below_alloc | apply pw_below_drewN | apply below_drew1) | exact HB.out)))); have n4_ := Aside0.mk (below_step (by repeat (first | (with_reducible first | exact HB.out | apply below_alloc | apply pw_below_drewN | apply below_drew1) | exact HB.out)) hb); clear HO_1; clear HO581; clear HO585; clear HB; have HO_1 := n0_; have HO581 := n1_; have HO585 := n2_; have HO590 := n3_; have HB := n4_; clear n0_ n1_ n2_ n3_ n4_; clear hb ho31; obtain ⟨Ao32, co32, eo32⟩ := Kd.R_slice HO590.out; subst eo32) | ((with_reducible refine gate_callee (f := 33) rfl ?_); refine goesL_ (some 35) rfl rfl Try.func33 (by kernel_rfl) rfl #[.slice Ao32 y588.length co32] rfl (by (try simp only [List.map_toArray, List.map_cons, List.map_nil]); first | done | rfl | (simp only [List.length_drop, List.length_take]; rfl)) ?_; (with_reducible refine (tlv_Check.calls kj2 _ _ y588 t591 t592 _ ?side1 ?side2 A17.out).mono ?_); (case side1 => repeat (first | exact (Kd.R_reads' HO590.out).2.2 | (with_reducible refine Kd.C_alloc ?_ _) | (with_reducible refine Kd.C_drewN ?_ _) | (with_reducible refine Kd.C_drew ?_))); (case side2 => exact (Kd.R_reads' HO590.out).2.1); rintro e w33 ⟨rfl, hb⟩; refine ⟨_, rfl, ?_⟩; have n0_ := Aside0.mk (Kd.R_below (by (with_reducible repeat (first | apply Kd.R_alloc | apply Kd.R_drewN | apply Kd.R_drew)); exact HO_1.out) hb); have n1_ := Aside0.mk (Kd.R_below (by (with_reducible repeat (first | apply Kd.R_alloc | apply Kd.R_drewN | apply Kd.R_drew)); exact HO581.out) hb); have n2_ := Aside0.mk (Kd.R_below (by (with_reducible repeat (first | apply Kd.R_alloc | apply Kd.R_drewN | apply Kd.R_drew)); exact HO585.out) hb); have n3_ := Aside0.mk (Kd.R_below (by (with_reducible repeat (first | apply Kd.R_alloc | apply Kd.R_drewN | apply Kd.R_drew)); exact HO590.out) hb); have n4_ := Aside0.mk (below_step (by repeat (first | (with_reducible first | exact HB.out | apply below_alloc | apply pw_below_drewN | apply below_drew1) | exact HB.out)) hb); clear HO_1; clear HO581; clear HO585; clear HO590; clear HB; have HO_1 := n0_; have HO581 := n1_; have HO585 := n2_; have HO590 := n3_; have HB := n4_; clear n0_ n1_ n2_ n3_ n4_; (try clear hb); (try clear hb2); (try clear hk); (try clear hi)) | (go_at_call 57; (with_reducible refine (stratumlaw05_small.calls  t593 _ A19.out).mono ?_); rintro e w34 ⟨v594, rfl, ho0, hb⟩; have n0_ := Aside0.mk (Kd.R_below (by (with_reducible repeat (first | apply Kd.R_alloc | apply Kd.R_drewN | apply Kd.R_drew)); exact HO_1.out) hb); have n1_ := Aside0.mk (Kd.R_elder' (by (with_reducible repeat (first | apply Kd.R_alloc | apply Kd.R_drewN | apply Kd.R_drew)); exact HO581.out) (Kd.R_base ho0) hb); have n2_ := Aside0.mk (Kd.R_elder' (by (with_reducible repeat (first | apply Kd.R_alloc | apply Kd.R_drewN | apply Kd.R_drew)); exact HO585.out) (Kd.R_base ho0) hb); have n3_ := Aside0.mk (Kd.R_elder' (by (with_reducible repeat (first | apply Kd.R_alloc | apply Kd.R_drewN | apply Kd.R_drew)); exact HO590.out) (Kd.R_base ho0) hb); have n4_ := Aside0.mk (Kd.R_lower (Kd.R_new' (Kd.R_new' (Kd.R_new' ho0 (Kd.R_lt (by (with_reducible repeat (first | apply Kd.R_alloc | apply Kd.R_drewN | apply Kd.R_drew)); exact HO581.out))) (Kd.R_lt (by (with_reducible repeat (first | apply Kd.R_alloc | apply Kd.R_drewN | apply Kd.R_drew)); exact HO585.out))) (Kd.R_lt (by (with_reducible repeat (first | apply Kd.R_alloc | apply Kd.R_drewN | apply Kd.R_drew)); exact HO590.out))) (below_size (by repeat (first | (with_reducible first | exact HB.out | apply below_alloc | apply pw_below_drewN | apply below_drew1) | exact HB.out)))); have n5_ := Aside0.mk (below_step (by repeat (first | (with_reducible first | exact HB.out | apply below_alloc | apply pw_below_drewN | apply below_drew1) | exact HB.out)) hb); clear HO_1; clear HO581; clear HO585; clear HO590; clear HB; have HO_1 := n0_; have HO581 := n1_; have HO585 := n2_; have HO590 := n3_; have HO595 := n4_; have HB := n5_; clear n0_ n1_ n2_ n3_ n4_ n5_; (try clear hb); (try clear hb2); (try clear hk); (try clear hi); (try clear ho0); obtain ⟨Ao35, co35, eo35⟩ := Kd.R_slice HO581.out; subst eo35; obtain ⟨Ao36, co36, eo36⟩ := Kd.R_slice HO595.out; subst eo36) | (go_at_call 41; (with_reducible refine (stratumlaw05_same.calls kj2 _ _ t579 _ _ t593 true _ ?side1 ?side2 ?side3 ?side4 A20.out).mono ?_); (case side1 => repeat (first | exact (Kd.R_reads' HO581.out).2.2 | (with_reducible refine Kd.C_alloc ?_ _) | (with_reducible refine Kd.C_drewN ?_ _) | (with_reducible refine Kd.C_drew ?_))); (case side2 => exact (Kd.R_reads' HO581.out).2.1); (case side3 => repeat (first | exact (Kd.R_reads' HO595.out).2.2 | (with_reducible refine Kd.C_alloc ?_ _) | (with_reducible refine Kd.C_drewN ?_ _) | (with_reducible refine Kd.C_drew ?_))); (case side4 => exact (Kd.R_reads' HO595.out).2.1); rintro e w' ⟨rfl, ⟨nd, rfl⟩⟩))
         go_ret
         exact ⟨by first | rfl | (simp [errW_none, errW_some] <;> rfl) | (simp [*, errW_none, errW_some] <;> rfl), by repeat (first | (with_reducible first | exact HB.out | apply below_alloc | apply pw_below_drewN | apply below_drew1) | exact HB.out)⟩
        ·rw [if_neg c24] at H
         have c24b0 : (t591 == 0) = false := beq_eq_false_iff_ne.mpr c24
         have c24b1 : (t591 != 0) = true := bne_iff_ne.mpr c24
         exact absurd ((Option.some.inj H).trans hr_.out) (by simp)
       ·rw [if_neg c23] at H
        have c23b0 : (t587 == 0) = false := beq_eq_false_iff_ne.mpr c23
        have c23b1 : (t587 != 0) = true := bne_iff_ne.mpr c23
        exact absurd ((Option.some.inj H).trans hr_.out) (by simp)
      ·rw [if_neg c22] at H
       have c22b0 : (t586 == 9) = false := beq_eq_false_iff_ne.mpr c22
       have c22b1 : (t586 != 9) = true := bne_iff_ne.mpr c22
       exact absurd ((Option.some.inj H).trans hr_.out) (by simp)
     ·replace c21 := Bool.eq_false_iff.mpr c21
      subst c21
      have H1 : (some false) = some r := by rw [if_neg (show ¬ (false = true) by decide)] at H; exact H
      clear H
      have H := H1
      clear H1
      exact absurd ((Option.some.inj H).trans hr_.out) (by simp)
    ·rw [if_neg c18] at H
     have c18b0 : (t582 == 0) = false := beq_eq_false_iff_ne.mpr c18
     have c18b1 : (t582 != 0) = true := bne_iff_ne.mpr c18
     exact absurd ((Option.some.inj H).trans hr_.out) (by simp)
def stratumlaw05_lives.f (k : Nat) : Option Bool := if stratumlaw05_lives0.f k = some true then some true else none
theorem stratumlaw05_lives.mono : ∀ k, LeO (stratumlaw05_lives.f k) (stratumlaw05_lives.f (k + 1)) := fun k r h => by
 unfold stratumlaw05_lives.f at h ⊢
 by_cases c : stratumlaw05_lives0.f k = some true
 ·rw [if_pos c] at h
  rw [if_pos (stratumlaw05_lives0.mono k _ c)]
  exact h
 ·rw [if_neg c] at h
  cases h
theorem stratumlaw05_lives.calls (k : Nat) (r : Bool) (w : World) (h : stratumlaw05_lives.f k = some r) :
  Calls Try.prog 30 #[] w fun e w' => e = .returned (.bool r) ∧ Below w.heap.size w w' := by
 unfold stratumlaw05_lives.f at h
 by_cases c : stratumlaw05_lives0.f k = some true
 ·rw [if_pos c] at h
  obtain rfl := Option.some.inj h
  exact stratumlaw05_lives0.calls k true w c ⟨rfl⟩
 ·rw [if_neg c] at h
  cases h
def stratumlaw05_heavy.l0 : Nat → List (S53) → Int → Int → Option (Bool)
 | 0, _, _, _ => none
 | k + 1, x0, x3, x4 => if x4 < (x0.length : Int) then (if x3 ≤ 33554432 then (if x4 ≤ 1048576 then (if 0 ≤ x4 then (stratumlaw05_heavy.l0 k x0 (wrap64 (x3 + (((rd_T53 x0 x4).f1.f2).size : Int))) (wrap64 (x4 + 1))) else (none)) else (if (x0.length : Int) > 1048576 then (some true) else (some (decide (33554432 < x3))))) else (if (x0.length : Int) > 1048576 then (some true) else (some (decide (33554432 < x3))))) else (if (x0.length : Int) > 1048576 then (some true) else (some (decide (33554432 < x3))))
def stratumlaw05_heavy.f (k : Nat) (l0 : List (S53)) : Option (Bool) := stratumlaw05_heavy.l0 k l0 0 0
set_option maxHeartbeats 8000000 in
set_option maxRecDepth 100000 in
theorem stratumlaw05_heavy.calls (k : Nat) (A0 : Option Addr) (c0 : Nat) (l0 : List (S53)) (r : Bool) (w : World) (hr0 : Kd.C k53 w A0 l0.length l0) (hc0 : l0.length ≤ c0) (h : stratumlaw05_heavy.f k l0 = some r) :
  Calls Try.prog 31 #[.slice A0 l0.length c0] w fun e w' => e = .returned (.bool r) ∧ Drawn0 w w' := by
 have HR0 := Aside0.mk hr0
 have HC0 := Aside0.mk hc0
 clear hr0 hc0
 have H : (stratumlaw05_heavy.l0 k l0 0 0) = some r := h
 clear h
 have H' := Aside0.mk H
 clear H
 go_enter Try.func31, Try.ntmps31
 go_wp2
 go_loopg [3, 4] k (fun kq v3 v4 w' => ∃ (x3_1 : Int) (x4_1 : Int), v3 = .int .i64 x3_1 ∧ v4 = .int .i64 x4_1 ∧ Aside0 (stratumlaw05_heavy.l0 kq l0 x3_1 x4_1 = some r) ∧ Aside0 (kq ≤ k) ∧ Drawn0 w w')
 case atStart => exact ⟨(0), (0), (by first | rfl | (simp; done) | (simp [*]; done)), (by first | rfl | (simp; done) | (simp [*]; done)), H', ⟨Nat.le_refl _⟩, by repeat (first | exact Drawn0.refl _ | apply Drawn0.step)⟩
 case round =>
  clear H'
  obtain ⟨x3_1, x4_1, rfl, rfl, HA, HK1, ⟨m1, rfl⟩⟩ := hrel
  cases gk with
  | zero => exact absurd HA.out (by simp [stratumlaw05_heavy.l0])
  | succ k1 =>
   have H := HA.out
   clear HA
   simp only [stratumlaw05_heavy.l0] at H
   by_cases c2 : x4_1 < (l0.length : Int)
   ·rw [if_pos c2] at H
    have c2b0 : decide (x4_1 < (l0.length : Int)) = true := decide_eq_true c2
    clear c2
    by_cases c3 : x3_1 ≤ 33554432
    ·rw [if_pos c3] at H
     have c3b0 : decide (x3_1 ≤ 33554432) = true := decide_eq_true c3
     clear c3
     by_cases c4 : x4_1 ≤ 1048576
     ·rw [if_pos c4] at H
      have c4b0 : decide (x4_1 ≤ 1048576) = true := decide_eq_true c4
      clear c4
      by_cases c5 : 0 ≤ x4_1
      ·rw [if_pos c5] at H
       have c5b0 : decide (0 ≤ x4_1) = true := decide_eq_true c5
       clear c5
       have H' := Aside0.mk H
       clear H
       have p597 : 0 ≤ (x4_1 : Int) := of_decide_eq_true (by first | (with_reducible assumption) | assumption)
       have q597 : x4_1 < (l0.length : Int) := of_decide_eq_true (by first | (with_reducible assumption) | assumption)
       obtain ⟨ad597, e597, hx597_0, hx597_1, hx597_2, hx597_3⟩ := at_T53 HR0.out x4_1 p597 q597
       cases e597
       replace p597 := eq_true p597
       replace q597 := eq_true q597
       go_wp2
       go_roundg k1
       case measure => have := HK1.out; omega
       case rel => exact ⟨(wrap64 (x3_1 + (((rd_T53 l0 x4_1).f1.f2).size : Int))), (wrap64 (x4_1 + 1)), (by first | rfl | (simp; done) | (simp [*]; done)), (by first | rfl | (simp; done) | (simp [*]; done)), H', ⟨by have := HK1.out; omega⟩, by repeat (first | exact Drawn0.refl _ | apply Drawn0.step)⟩
      ·rw [if_neg c5] at H
       exact absurd H (by simp)
     ·rw [if_neg c4] at H
      have c4b0 : decide (x4_1 ≤ 1048576) = false := decide_eq_false c4
      clear c4
      by_cases c6 : (l0.length : Int) > 1048576
      ·rw [if_pos c6] at H
       have c6b0 : decide (1048576 < (l0.length : Int)) = true := decide_eq_true c6
       have c6b1 : decide (1048576 < l0.length) = true := decide_eq_true (by omega)
       clear c6
       obtain rfl := Option.some.inj H
       go_wp2
       go_ret
       exact ⟨by first | rfl | (simp; done) | (simp [*]; done), by repeat (first | exact Drawn0.refl _ | apply Drawn0.step)⟩
      ·rw [if_neg c6] at H
       have c6b0 : decide (1048576 < (l0.length : Int)) = false := decide_eq_false c6
       have c6b1 : decide (1048576 < l0.length) = false := decide_eq_false (by omega)
       clear c6
       obtain rfl := Option.some.inj H
       go_wp2
       go_ret
       exact ⟨by first | rfl | (simp; done) | (simp [*]; done), by repeat (first | exact Drawn0.refl _ | apply Drawn0.step)⟩
    ·rw [if_neg c3] at H
     have c3b0 : decide (x3_1 ≤ 33554432) = false := decide_eq_false c3
     clear c3
     by_cases c7 : (l0.length : Int) > 1048576
     ·rw [if_pos c7] at H
      have c7b0 : decide (1048576 < (l0.length : Int)) = true := decide_eq_true c7
      have c7b1 : decide (1048576 < l0.length) = true := decide_eq_true (by omega)
      clear c7
      obtain rfl := Option.some.inj H
      go_wp2
      go_ret
      exact ⟨by first | rfl | (simp; done) | (simp [*]; done), by repeat (first | exact Drawn0.refl _ | apply Drawn0.step)⟩
     ·rw [if_neg c7] at H
      have c7b0 : decide (1048576 < (l0.length : Int)) = false := decide_eq_false c7
      have c7b1 : decide (1048576 < l0.length) = false := decide_eq_false (by omega)
      clear c7
      obtain rfl := Option.some.inj H
      go_wp2
      go_ret
      exact ⟨by first | rfl | (simp; done) | (simp [*]; done), by repeat (first | exact Drawn0.refl _ | apply Drawn0.step)⟩
   ·rw [if_neg c2] at H
    have c2b0 : decide (x4_1 < (l0.length : Int)) = false := decide_eq_false c2
    clear c2
    by_cases c8 : (l0.length : Int) > 1048576
    ·rw [if_pos c8] at H
     have c8b0 : decide (1048576 < (l0.length : Int)) = true := decide_eq_true c8
     have c8b1 : decide (1048576 < l0.length) = true := decide_eq_true (by omega)
     clear c8
     obtain rfl := Option.some.inj H
     go_wp2
     go_ret
     exact ⟨by first | rfl | (simp; done) | (simp [*]; done), by repeat (first | exact Drawn0.refl _ | apply Drawn0.step)⟩
    ·rw [if_neg c8] at H
     have c8b0 : decide (1048576 < (l0.length : Int)) = false := decide_eq_false c8
     have c8b1 : decide (1048576 < l0.length) = false := decide_eq_false (by omega)
     clear c8
     obtain rfl := Option.some.inj H
     go_wp2
     go_ret
     exact ⟨by first | rfl | (simp; done) | (simp [*]; done), by repeat (first | exact Drawn0.refl _ | apply Drawn0.step)⟩
def stratumref05_number.l0 : Nat → List Int → Int → Option (List Int)
 | 0, _, _ => none
 | k + 1, x0, x1 => if x1 ≥ 128 then (if x0.length < 140737488355328 then (stratumref05_number.l0 k (x0 ++ [(IntKind.u64.wrap (128 + (Int.tmod x1 128))) % 256]) (IntKind.u64.wrap (Int.tdiv x1 128))) else (none)) else (if x0.length < 140737488355328 then (some (x0 ++ [(x1) % 256])) else (none))
def stratumref05_number.f (k : Nat) (l0 : List Int) (a1 : Int) : Option (List Int) := stratumref05_number.l0 k l0 a1
set_option maxHeartbeats 8000000 in
set_option maxRecDepth 100000 in
theorem stratumref05_number.calls (k : Nat) (P0_ : Nat → Prop) (u9000_ : Value) (l0 : List Int) (a1 : Int) (r : List Int) (w0 w : World) (hB : Below w0.heap.size w0 w) (ho0 : Kd.R (Kd.int .u8) 5 w w0.heap.size P0_ u9000_ l0) (h : stratumref05_number.f k l0 a1 = some r) :
  Calls Try.prog 60 #[u9000_, .int .u64 a1] w fun e w' => ∃ v0_ : Value, e = .returned (v0_) ∧ Kd.R (Kd.int .u8) 5 w' w0.heap.size (fun k_ => (P0_ k_ ∨ w.heap.size ≤ k_)) v0_ r ∧ Below w0.heap.size w0 w' ∧ Kept w w' (fun k_ => P0_ k_) := by
 have HO0 := Aside0.mk (show Kd.R (Kd.int .u8) 5 w w0.heap.size (fun k_ => (P0_ k_ ∨ w.heap.size ≤ k_)) u9000_ l0 from Kd.R_mono ho0 (fun k_ hk => (.inl hk)))
 have HK := Aside0.mk (Kept.refl w (fun k_ => P0_ k_))
 have HW0 := Aside0.mk hB.size
 have HB := Aside0.mk hB
 clear hB
 have H : (stratumref05_number.l0 k l0 a1) = some r := h
 clear h
 have H' := Aside0.mk H
 clear H
 go_enter Try.func60, Try.ntmps60
 go_wp2
 go_loopg [0, 1] k (fun kq v0 v1 w' => ∃ (x0_1 : List Int) (x1_1 : Int), v1 = .int .u64 x1_1 ∧ Aside0 (stratumref05_number.l0 kq x0_1 x1_1 = some r) ∧ Aside0 (kq ≤ k) ∧ Aside0 (Kd.R (Kd.int .u8) 5 w' w0.heap.size (fun k_ => (P0_ k_ ∨ w.heap.size ≤ k_)) v0 x0_1) ∧ Aside0 (Kept w w' (fun k_ => P0_ k_)) ∧ Aside0 (Below w0.heap.size w0 w'))
 case atStart => exact ⟨(l0), (a1), (by first | rfl | (simp; done) | (simp [*]; done)), H', ⟨Nat.le_refl _⟩, ⟨by (with_reducible repeat (first | apply Kd.R_alloc | apply Kd.R_drewN | apply Kd.R_drew)); exact HO0.out⟩, ⟨by repeat (first | (with_reducible first | exact HK.out | apply Kept.alloc | apply Kept.drewN | apply Kept.drew) | exact HK.out)⟩, ⟨by repeat (first | (with_reducible first | exact HB.out | apply below_alloc | apply pw_below_drewN | apply below_drew1) | exact HB.out)⟩⟩
 case round =>
  clear H'
  try clear p2
  obtain ⟨x0_1, x1_1, rfl, HA, HK1, HO_0, HK, HB⟩ := hrel
  cases gk with
  | zero => exact absurd HA.out (by simp [stratumref05_number.l0])
  | succ k1 =>
   have H := HA.out
   clear HA
   simp only [stratumref05_number.l0] at H
   by_cases c3 : x1_1 ≥ 128
   ·rw [if_pos c3] at H
    have c3b0 : decide (128 ≤ x1_1) = true := decide_eq_true c3
    clear c3
    by_cases c4 : x0_1.length < 140737488355328
    ·rw [if_pos c4] at H
     have LMc4 := Aside0.mk c4
     clear c4
     obtain ⟨y598, hy598⟩ : ∃ y_ : List Int, y_ = (x0_1 ++ [(IntKind.u64.wrap (128 + (Int.tmod x1_1 128))) % 256]) := ⟨_, rfl⟩
     replace H : (stratumref05_number.l0 k1 y598 (IntKind.u64.wrap (Int.tdiv x1_1 128))) = some r := by first | (rw [hy598]; with_reducible exact H) | (have H2_ := (Option.bind_some _ _).symm.trans H; rw [hy598]; with_reducible exact H2_) | (have H2_ := (Option.bind_some _ _).symm.trans H; with_reducible exact H2_) | with_reducible exact H | (rw [hy598]; exact H) | exact H
     have Ny598 := Aside0.mk hy598
     clear hy598
     have H' := Aside0.mk H
     clear H
     go_wp2_with (first | ((with_reducible refine gate_builtin (b := .append) (xs := #[.tmp 7, .tmp 12]) rfl ?_); at_builtin; refine Kd.R_append (Kd.int .u8) (w0 := w0) w0.heap.size rfl (.tmp 7) (.tmp 12) 63 5 (.int .u8 0) 1 rfl Try.underlying63 info5 rfl (by decide) (by omega) u0 x0_1 ((IntKind.u64.wrap (128 + (Int.tmod x1_1 128))) % 256) [.int .u8 ((IntKind.u64.wrap (128 + (Int.tmod x1_1 128))) % 256)] (fun k_ => (P0_ k_ ∨ w.heap.size ≤ k_)) (fun _ => False) rfl rfl ?aP (fun _ hk => hk.elim) ?aF ?aO ?aB ?aS ?aL ?_; (case aP => exact rfl); (case aB => exact (by repeat (first | (with_reducible first | exact HB.out | apply below_alloc | apply pw_below_drewN | apply below_drew1) | exact HB.out))); (case aF => exact (fun k_ hk => (.inr (Nat.le_trans (by first | exact HK.out.1 | exact (show Kept w _ (fun k_ => P0_ k_) from by repeat (first | (with_reducible first | exact HK.out | apply Kept.alloc | apply Kept.drewN | apply Kept.drew) | exact HK.out)).1) hk)))); (case aO => exact (by (with_reducible repeat (first | apply Kd.R_alloc | apply Kd.R_drewN | apply Kd.R_drew)); exact HO_0.out)); (case aS => exact (below_size (by repeat (first | (with_reducible first | exact HB.out | apply below_alloc | apply pw_below_drewN | apply below_drew1) | exact HB.out)))); (case aL => have := LMc4.out; omega); intro v599 w5 ho hb hg hat; rw [← Ny598.out] at ho; have n0_ := Aside0.mk (hb); have n1_ := Aside0.mk (Kept.of_grown (S := (fun k_ => P0_ k_)) hg (by repeat (first | (with_reducible first | exact HK.out | apply Kept.alloc | apply Kept.drewN | apply Kept.drew) | exact HK.out)) (fun k_ e_ => (HO_0.out.1 k_ e_))); have n2_ := Aside0.mk (ho); clear HB; clear HK; clear HO_0; have HB := n0_; have HK := n1_; have HO600 := n2_; clear n0_ n1_ n2_; clear ho hb hg hat))
     go_roundg k1
     case measure => have := HK1.out; omega
     case rel => exact ⟨(y598), (IntKind.u64.wrap (Int.tdiv x1_1 128)), (by first | rfl | (simp; done) | (simp [*]; done)), H', ⟨by have := HK1.out; omega⟩, ⟨by (with_reducible repeat (first | apply Kd.R_alloc | apply Kd.R_drewN | apply Kd.R_drew)); exact HO600.out⟩, ⟨by repeat (first | (with_reducible first | exact HK.out | apply Kept.alloc | apply Kept.drewN | apply Kept.drew) | exact HK.out)⟩, ⟨by repeat (first | (with_reducible first | exact HB.out | apply below_alloc | apply pw_below_drewN | apply below_drew1) | exact HB.out)⟩⟩
    ·rw [if_neg c4] at H
     exact absurd H (by simp)
   ·rw [if_neg c3] at H
    have c3b0 : decide (128 ≤ x1_1) = false := decide_eq_false c3
    clear c3
    by_cases c6 : x0_1.length < 140737488355328
    ·rw [if_pos c6] at H
     have LMc6 := Aside0.mk c6
     clear c6
     obtain ⟨y601, hy601⟩ : ∃ y_ : List Int, y_ = (x0_1 ++ [(x1_1) % 256]) := ⟨_, rfl⟩
     replace H : (some y601) = some r := by first | (rw [hy601]; with_reducible exact H) | (have H2_ := (Option.bind_some _ _).symm.trans H; rw [hy601]; with_reducible exact H2_) | (have H2_ := (Option.bind_some _ _).symm.trans H; with_reducible exact H2_) | with_reducible exact H | (rw [hy601]; exact H) | exact H
     have Ny601 := Aside0.mk hy601
     clear hy601
     obtain rfl := Option.some.inj H
     go_wp2_with (first | ((with_reducible refine gate_builtin (b := .append) (xs := #[.tmp 16, .tmp 19]) rfl ?_); at_builtin; refine Kd.R_append (Kd.int .u8) (w0 := w0) w0.heap.size rfl (.tmp 16) (.tmp 19) 63 5 (.int .u8 0) 1 rfl Try.underlying63 info5 rfl (by decide) (by omega) u0 x0_1 ((x1_1) % 256) [.int .u8 ((x1_1) % 256)] (fun k_ => (P0_ k_ ∨ w.heap.size ≤ k_)) (fun _ => False) rfl rfl ?aP (fun _ hk => hk.elim) ?aF ?aO ?aB ?aS ?aL ?_; (case aP => exact rfl); (case aB => exact (by repeat (first | (with_reducible first | exact HB.out | apply below_alloc | apply pw_below_drewN | apply below_drew1) | exact HB.out))); (case aF => exact (fun k_ hk => (.inr (Nat.le_trans (by first | exact HK.out.1 | exact (show Kept w _ (fun k_ => P0_ k_) from by repeat (first | (with_reducible first | exact HK.out | apply Kept.alloc | apply Kept.drewN | apply Kept.drew) | exact HK.out)).1) hk)))); (case aO => exact (by (with_reducible repeat (first | apply Kd.R_alloc | apply Kd.R_drewN | apply Kd.R_drew)); exact HO_0.out)); (case aS => exact (below_size (by repeat (first | (with_reducible first | exact HB.out | apply below_alloc | apply pw_below_drewN | apply below_drew1) | exact HB.out)))); (case aL => have := LMc6.out; omega); intro v602 w7 ho hb hg hat; rw [← Ny601.out] at ho; have n0_ := Aside0.mk (hb); have n1_ := Aside0.mk (Kept.of_grown (S := (fun k_ => P0_ k_)) hg (by repeat (first | (with_reducible first | exact HK.out | apply Kept.alloc | apply Kept.drewN | apply Kept.drew) | exact HK.out)) (fun k_ e_ => (HO_0.out.1 k_ e_))); have n2_ := Aside0.mk (ho); clear HB; clear HK; clear HO_0; have HB := n0_; have HK := n1_; have HO603 := n2_; clear n0_ n1_ n2_; clear ho hb hg hat))
     go_ret
     exact ⟨_, by first | rfl | (simp [errW_none, errW_some] <;> rfl) | (simp [*, errW_none, errW_some] <;> rfl), by (with_reducible repeat (first | apply Kd.R_alloc | apply Kd.R_drewN | apply Kd.R_drew)); exact HO603.out, by repeat (first | (with_reducible first | exact HB.out | apply below_alloc | apply pw_below_drewN | apply below_drew1) | exact HB.out), by repeat (first | (with_reducible first | exact HK.out | apply Kept.alloc | apply Kept.drewN | apply Kept.drew) | exact HK.out)⟩
    ·rw [if_neg c6] at H
     exact absurd H (by simp)
end Go.Proofs.Yteejpfemaedmkaa.X
