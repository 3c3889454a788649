-- Written by wip/printx.py: the kit's printer with functions proved by hand. Not trusted: Lean checks it.
import Derived.Test.YtepkmbbeaaljlaaX0
import Derived.Test.YtepkmbbeaaljlaaX1
import Derived.Test.YtepkmbbeaaljlaaX4
import Derived.Test.YtepkmbbeaaljlaaX5
namespace Go.Proofs.Ytepkmbbeaaljlaa.X
open Go.RowKit Go.Proofs.YtepkmbbeaaljlaaW.PrintWords Go.Proofs.YtepkmbbeaaljlaaW.PrintLast Go.Proofs.YtepkmbbeaaljlaaW.PrintMore
attribute [local go_sem] max2_int min2_int max_two min_two max_three min_three max_four min_four   -- for this text's walks alone
set_option linter.unusedVariables false
set_option linter.unusedSimpArgs false

attribute [local go_sem] vx_gtr vx_leq vx_geq
attribute [local go_sem high] eqA27
/-! ### stratumlaw04_KindOrder: function 4 -/
def stratumlaw04_KindOrder.j0 : Nat → Int → Int → Int → Bool → Int → Int → ByteArray → Int → Int → ByteArray → Option (Bool)
  | 0, _, _, _, _, _, _, _, _, _, _ => none
  | k + 1, x7, x8, x9, x42, x198000, x198001, x198002, x199000, x199001, x199002 => if x42 = true then (some false) else (if x7 ≤ 0 then (if x8 ≤ 0 then (if x9 > 0 then (some false) else (if x7 < 0 then (if x9 ≥ 0 then (some false) else (if x8 < 0 then (if x198000 ≥ x199000 then (some true) else (some (x7 == (-1)))) else (if x198000 ≥ x199000 then (some true) else (some (x7 == (-1)))))) else (if x8 < 0 then (if x9 ≥ 0 then (some false) else (if x198000 ≥ x199000 then (some true) else (some (x7 == (-1))))) else (if x198000 ≥ x199000 then (some true) else (some (x7 == (-1))))))) else (if x7 < 0 then (if x8 < 0 then (if x9 ≥ 0 then (some false) else (if x198000 ≥ x199000 then (some true) else (some (x7 == (-1))))) else (if x198000 ≥ x199000 then (some true) else (some (x7 == (-1))))) else (if x8 < 0 then (if x9 ≥ 0 then (some false) else (if x198000 ≥ x199000 then (some true) else (some (x7 == (-1))))) else (if x198000 ≥ x199000 then (some true) else (some (x7 == (-1))))))) else (if x7 < 0 then (if x8 ≤ 0 then (if x9 ≥ 0 then (some false) else (if x198000 ≥ x199000 then (some true) else (some (x7 == (-1))))) else (if x198000 ≥ x199000 then (some true) else (some (x7 == (-1))))) else (if x198000 ≥ x199000 then (some true) else (some (x7 == (-1))))))
def stratumlaw04_KindOrder.f (k : Nat) (a0_0 : Int) (a0_1 : Int) (a0_2 : ByteArray) (a1_0 : Int) (a1_1 : Int) (a1_2 : ByteArray) (a2_0 : Int) (a2_1 : Int) (a2_2 : ByteArray) : Option (Bool) := (stratumlaw04_awake.f k).bind fun t200 => (if t200 = true then ((kind_Order.f k a0_0 a0_1 a0_2 a1_0 a1_1 a1_2).bind fun t201 => ((kind_Order.f k a1_0 a1_1 a1_2 a2_0 a2_1 a2_2).bind fun t202 => ((kind_Order.f k a0_0 a0_1 a0_2 a2_0 a2_1 a2_2).bind fun t203 => (if t201 < (-1) then (stratumlaw04_KindOrder.j0 k t201 t202 t203 true a0_0 a0_1 a0_2 a1_0 a1_1 a1_2) else (if t201 > 1 then (stratumlaw04_KindOrder.j0 k t201 t202 t203 true a0_0 a0_1 a0_2 a1_0 a1_1 a1_2) else ((kind_Order.f k a1_0 a1_1 a1_2 a0_0 a0_1 a0_2).bind fun t204 => (if t204 = (wrap64 (-t201)) then (if (a0_0 == a1_0 && (a0_1 == a1_1 && (a0_2.toList == a1_2.toList))) = true then (stratumlaw04_KindOrder.j0 k t201 t202 t203 ((t201 == 0) != true) a0_0 a0_1 a0_2 a1_0 a1_1 a1_2) else (stratumlaw04_KindOrder.j0 k t201 t202 t203 ((t201 == 0) != false) a0_0 a0_1 a0_2 a1_0 a1_1 a1_2)) else (stratumlaw04_KindOrder.j0 k t201 t202 t203 true a0_0 a0_1 a0_2 a1_0 a1_1 a1_2)))))))) else (some false))
theorem stratumlaw04_KindOrder.mono_l : ∀ k, (∀ y0 y1 y2 y3 y4 y5 y6 y7 y8 y9, LeO (stratumlaw04_KindOrder.j0 k y0 y1 y2 y3 y4 y5 y6 y7 y8 y9) (stratumlaw04_KindOrder.j0 (k + 1) y0 y1 y2 y3 y4 y5 y6 y7 y8 y9))
  | 0 => fun _ _ _ _ _ _ _ _ _ _ r h => by simp [stratumlaw04_KindOrder.j0] at h
  | k + 1 => by
    have ih0 := stratumlaw04_KindOrder.mono_l k
    · intro y0 y1 y2 y3 y4 y5 y6 y7 y8 y9
      unfold stratumlaw04_KindOrder.j0
      repeat' first
      | (with_reducible exact ih0 _ _ _ _ _ _ _ _ _ _)
      | (with_reducible exact kind_Order.mono _ _ _ _ _ _ _)
      | (with_reducible exact stratumlaw04_awake.mono _)
      | (with_reducible exact LeO.refl _)
      | (with_reducible exact LeO.none _)
      | (with_reducible refine LeO.ite ?_ ?_)
      | (with_reducible refine LeO.bind ?_ (fun _ => ?_))
      | exact ih0 _ _ _ _ _ _ _ _ _ _
      | exact kind_Order.mono _ _ _ _ _ _ _
      | exact stratumlaw04_awake.mono _
      | exact LeO.none _
      | refine LeO.ite ?_ ?_
      | refine LeO.bind ?_ (fun _ => ?_)
theorem stratumlaw04_KindOrder.mono : ∀ a0 a1 a2 a3 a4 a5 a6 a7 a8 k, LeO (stratumlaw04_KindOrder.f k a0 a1 a2 a3 a4 a5 a6 a7 a8) (stratumlaw04_KindOrder.f (k + 1) a0 a1 a2 a3 a4 a5 a6 a7 a8) := by
  intro a0 a1 a2 a3 a4 a5 a6 a7 a8 k
  have ih0 := stratumlaw04_KindOrder.mono_l k
  unfold stratumlaw04_KindOrder.f
  repeat' first
      | (with_reducible exact ih0 _ _ _ _ _ _ _ _ _ _)
      | (with_reducible exact kind_Order.mono _ _ _ _ _ _ _)
      | (with_reducible exact stratumlaw04_awake.mono _)
      | (with_reducible exact LeO.refl _)
      | (with_reducible exact LeO.none _)
      | (with_reducible refine LeO.ite ?_ ?_)
      | (with_reducible refine LeO.bind ?_ (fun _ => ?_))
      | exact ih0 _ _ _ _ _ _ _ _ _ _
      | exact kind_Order.mono _ _ _ _ _ _ _
      | exact stratumlaw04_awake.mono _
      | exact LeO.none _
      | refine LeO.ite ?_ ?_
      | refine LeO.bind ?_ (fun _ => ?_)
set_option maxHeartbeats 8000000 in
set_option maxRecDepth 100000 in
theorem stratumlaw04_KindOrder.calls (k : Nat) (a0_0 : Int) (a0_1 : Int) (a0_2 : ByteArray) (a1_0 : Int) (a1_1 : Int) (a1_2 : ByteArray) (a2_0 : Int) (a2_1 : Int) (a2_2 : ByteArray) (r : Bool) (w : World) (h : stratumlaw04_KindOrder.f k a0_0 a0_1 a0_2 a1_0 a1_1 a1_2 a2_0 a2_1 a2_2 = some r) :
    Calls Try.prog 4 #[.agg #[.int .i64 a0_0, .int .u64 a0_1, .string a0_2], .agg #[.int .i64 a1_0, .int .u64 a1_1, .string a1_2], .agg #[.int .i64 a2_0, .int .u64 a2_1, .string a2_2]] w fun e w' => e = .returned (.bool r) ∧ Below w.heap.size w w' := by
  have hu27 := Try.underlying27
  have HB := Aside0.mk (Below.refl w.heap.size w)
  have H : ((stratumlaw04_awake.f k).bind fun t200 => (if t200 = true then ((kind_Order.f k a0_0 a0_1 a0_2 a1_0 a1_1 a1_2).bind fun t201 => ((kind_Order.f k a1_0 a1_1 a1_2 a2_0 a2_1 a2_2).bind fun t202 => ((kind_Order.f k a0_0 a0_1 a0_2 a2_0 a2_1 a2_2).bind fun t203 => (if t201 < (-1) then (stratumlaw04_KindOrder.j0 k t201 t202 t203 true a0_0 a0_1 a0_2 a1_0 a1_1 a1_2) else (if t201 > 1 then (stratumlaw04_KindOrder.j0 k t201 t202 t203 true a0_0 a0_1 a0_2 a1_0 a1_1 a1_2) else ((kind_Order.f k a1_0 a1_1 a1_2 a0_0 a0_1 a0_2).bind fun t204 => (if t204 = (wrap64 (-t201)) then (if (a0_0 == a1_0 && (a0_1 == a1_1 && (a0_2.toList == a1_2.toList))) = true then (stratumlaw04_KindOrder.j0 k t201 t202 t203 ((t201 == 0) != true) a0_0 a0_1 a0_2 a1_0 a1_1 a1_2) else (stratumlaw04_KindOrder.j0 k t201 t202 t203 ((t201 == 0) != false) a0_0 a0_1 a0_2 a1_0 a1_1 a1_2)) else (stratumlaw04_KindOrder.j0 k t201 t202 t203 true a0_0 a0_1 a0_2 a1_0 a1_1 a1_2)))))))) else (some false))) = some r := h
  clear h
  replace H := Option.bind_eq_some_iff.mp H
  obtain ⟨t200, A40, H⟩ := H
  replace H : (if t200 = true then ((kind_Order.f k a0_0 a0_1 a0_2 a1_0 a1_1 a1_2).bind fun t201 => ((kind_Order.f k a1_0 a1_1 a1_2 a2_0 a2_1 a2_2).bind fun t202 => ((kind_Order.f k a0_0 a0_1 a0_2 a2_0 a2_1 a2_2).bind fun t203 => (if t201 < (-1) then (stratumlaw04_KindOrder.j0 k t201 t202 t203 true a0_0 a0_1 a0_2 a1_0 a1_1 a1_2) else (if t201 > 1 then (stratumlaw04_KindOrder.j0 k t201 t202 t203 true a0_0 a0_1 a0_2 a1_0 a1_1 a1_2) else ((kind_Order.f k a1_0 a1_1 a1_2 a0_0 a0_1 a0_2).bind fun t204 => (if t204 = (wrap64 (-t201)) then (if (a0_0 == a1_0 && (a0_1 == a1_1 && (a0_2.toList == a1_2.toList))) = true then (stratumlaw04_KindOrder.j0 k t201 t202 t203 ((t201 == 0) != true) a0_0 a0_1 a0_2 a1_0 a1_1 a1_2) else (stratumlaw04_KindOrder.j0 k t201 t202 t203 ((t201 == 0) != false) a0_0 a0_1 a0_2 a1_0 a1_1 a1_2)) else (stratumlaw04_KindOrder.j0 k t201 t202 t203 true a0_0 a0_1 a0_2 a1_0 a1_1 a1_2)))))))) else (some false)) = some r := H
  have A4 := Aside0.mk A40
  clear A40
  by_cases c5 : t200 = true
  · subst c5
    have H1 : ((kind_Order.f k a0_0 a0_1 a0_2 a1_0 a1_1 a1_2).bind fun t201 => ((kind_Order.f k a1_0 a1_1 a1_2 a2_0 a2_1 a2_2).bind fun t202 => ((kind_Order.f k a0_0 a0_1 a0_2 a2_0 a2_1 a2_2).bind fun t203 => (if t201 < (-1) then (stratumlaw04_KindOrder.j0 k t201 t202 t203 true a0_0 a0_1 a0_2 a1_0 a1_1 a1_2) else (if t201 > 1 then (stratumlaw04_KindOrder.j0 k t201 t202 t203 true a0_0 a0_1 a0_2 a1_0 a1_1 a1_2) else ((kind_Order.f k a1_0 a1_1 a1_2 a0_0 a0_1 a0_2).bind fun t204 => (if t204 = (wrap64 (-t201)) then (if (a0_0 == a1_0 && (a0_1 == a1_1 && (a0_2.toList == a1_2.toList))) = true then (stratumlaw04_KindOrder.j0 k t201 t202 t203 ((t201 == 0) != true) a0_0 a0_1 a0_2 a1_0 a1_1 a1_2) else (stratumlaw04_KindOrder.j0 k t201 t202 t203 ((t201 == 0) != false) a0_0 a0_1 a0_2 a1_0 a1_1 a1_2)) else (stratumlaw04_KindOrder.j0 k t201 t202 t203 true a0_0 a0_1 a0_2 a1_0 a1_1 a1_2)))))))) = some r := by rw [if_pos rfl] at H; exact H
    clear H
    have H := H1
    clear H1
    replace H := Option.bind_eq_some_iff.mp H
    obtain ⟨t201, A60, H⟩ := H
    replace H : ((kind_Order.f k a1_0 a1_1 a1_2 a2_0 a2_1 a2_2).bind fun t202 => ((kind_Order.f k a0_0 a0_1 a0_2 a2_0 a2_1 a2_2).bind fun t203 => (if t201 < (-1) then (stratumlaw04_KindOrder.j0 k t201 t202 t203 true a0_0 a0_1 a0_2 a1_0 a1_1 a1_2) else (if t201 > 1 then (stratumlaw04_KindOrder.j0 k t201 t202 t203 true a0_0 a0_1 a0_2 a1_0 a1_1 a1_2) else ((kind_Order.f k a1_0 a1_1 a1_2 a0_0 a0_1 a0_2).bind fun t204 => (if t204 = (wrap64 (-t201)) then (if (a0_0 == a1_0 && (a0_1 == a1_1 && (a0_2.toList == a1_2.toList))) = true then (stratumlaw04_KindOrder.j0 k t201 t202 t203 ((t201 == 0) != true) a0_0 a0_1 a0_2 a1_0 a1_1 a1_2) else (stratumlaw04_KindOrder.j0 k t201 t202 t203 ((t201 == 0) != false) a0_0 a0_1 a0_2 a1_0 a1_1 a1_2)) else (stratumlaw04_KindOrder.j0 k t201 t202 t203 true a0_0 a0_1 a0_2 a1_0 a1_1 a1_2))))))) = some r := H
    have A6 := Aside0.mk A60
    clear A60
    replace H := Option.bind_eq_some_iff.mp H
    obtain ⟨t202, A70, H⟩ := H
    replace H : ((kind_Order.f k a0_0 a0_1 a0_2 a2_0 a2_1 a2_2).bind fun t203 => (if t201 < (-1) then (stratumlaw04_KindOrder.j0 k t201 t202 t203 true a0_0 a0_1 a0_2 a1_0 a1_1 a1_2) else (if t201 > 1 then (stratumlaw04_KindOrder.j0 k t201 t202 t203 true a0_0 a0_1 a0_2 a1_0 a1_1 a1_2) else ((kind_Order.f k a1_0 a1_1 a1_2 a0_0 a0_1 a0_2).bind fun t204 => (if t204 = (wrap64 (-t201)) then (if (a0_0 == a1_0 && (a0_1 == a1_1 && (a0_2.toList == a1_2.toList))) = true then (stratumlaw04_KindOrder.j0 k t201 t202 t203 ((t201 == 0) != true) a0_0 a0_1 a0_2 a1_0 a1_1 a1_2) else (stratumlaw04_KindOrder.j0 k t201 t202 t203 ((t201 == 0) != false) a0_0 a0_1 a0_2 a1_0 a1_1 a1_2)) else (stratumlaw04_KindOrder.j0 k t201 t202 t203 true a0_0 a0_1 a0_2 a1_0 a1_1 a1_2)))))) = some r := H
    have A7 := Aside0.mk A70
    clear A70
    replace H := Option.bind_eq_some_iff.mp H
    obtain ⟨t203, A80, H⟩ := H
    replace H : (if t201 < (-1) then (stratumlaw04_KindOrder.j0 k t201 t202 t203 true a0_0 a0_1 a0_2 a1_0 a1_1 a1_2) else (if t201 > 1 then (stratumlaw04_KindOrder.j0 k t201 t202 t203 true a0_0 a0_1 a0_2 a1_0 a1_1 a1_2) else ((kind_Order.f k a1_0 a1_1 a1_2 a0_0 a0_1 a0_2).bind fun t204 => (if t204 = (wrap64 (-t201)) then (if (a0_0 == a1_0 && (a0_1 == a1_1 && (a0_2.toList == a1_2.toList))) = true then (stratumlaw04_KindOrder.j0 k t201 t202 t203 ((t201 == 0) != true) a0_0 a0_1 a0_2 a1_0 a1_1 a1_2) else (stratumlaw04_KindOrder.j0 k t201 t202 t203 ((t201 == 0) != false) a0_0 a0_1 a0_2 a1_0 a1_1 a1_2)) else (stratumlaw04_KindOrder.j0 k t201 t202 t203 true a0_0 a0_1 a0_2 a1_0 a1_1 a1_2))))) = some r := H
    have A8 := Aside0.mk A80
    clear A80
    have HC9 := Aside0.mk H
    clear H
    go_enter Try.func4, Try.ntmps4
    go_upto_region 6 with (first | ((with_reducible refine gate_dst (N := 3) rfl ?_); refine box_event ?hg (N := 3) ?hd (cs := #[.int .i64 a0_0, .int .u64 a0_1, .string a0_2]) (t := 27) ?hr ?_; (case hd => rfl); (case hg => rfl); (case hr => first | (go_simp; done) | (go_simp; rfl)); intro gb197 hg w10 hbox hb; have n0_ := Aside0.mk (below_step (by repeat (first | (with_reducible first | exact HB.out | apply below_alloc | apply pw_below_drewN | apply below_drew1) | exact HB.out)) hb); have n1_ := Aside0.mk (hbox); have n2_ := Aside0.mk ((by rw [hg]; exact (below_size (by repeat (first | (with_reducible first | exact HB.out | apply below_alloc | apply pw_below_drewN | apply below_drew1) | exact HB.out))) : w.heap.size ≤ gb197)); have n3_ := Aside0.mk ((by rw [hg]; exact (below_size (by repeat (first | (with_reducible first | exact HB.out | apply below_alloc | apply pw_below_drewN | apply below_drew1) | exact HB.out))) : w.heap.size ≤ gb197)); clear HB; have HB := n0_; have BK197 := n1_; have GW197 := n2_; have GE197 := n3_; clear n0_ n1_ n2_ n3_; clear hb hbox hg) | ((with_reducible refine gate_dst (N := 4) rfl ?_); refine box_event ?hg (N := 4) ?hd (cs := #[.int .i64 a1_0, .int .u64 a1_1, .string a1_2]) (t := 27) ?hr ?_; (case hd => rfl); (case hg => rfl); (case hr => first | (go_simp; done) | (go_simp; rfl)); intro gb198 hg w11 hbox hb; have n0_ := Aside0.mk (blk_below (g := gb197) (o := .cells #[.int .i64 a0_0, .int .u64 a0_1, .string a0_2] 27 (0, 0)) (by (with_reducible repeat (first | refine blk_drewN ?_ _ | refine blk_drew ?_ | refine blk_alloc ?_ _)); exact BK197.out) hb); have n1_ := Aside0.mk (below_step (by repeat (first | (with_reducible first | exact HB.out | apply below_alloc | apply pw_below_drewN | apply below_drew1 | refine below_set ?_ GE197.out) | exact HB.out)) hb); have n2_ := Aside0.mk (hbox); have n3_ := Aside0.mk ((by rw [hg]; exact (below_size (by repeat (first | (with_reducible first | exact HB.out | apply below_alloc | apply pw_below_drewN | apply below_drew1 | refine below_set ?_ GE197.out) | exact HB.out))) : w.heap.size ≤ gb198)); have n4_ := Aside0.mk ((by rw [hg]; exact (below_size (by repeat (first | (with_reducible first | exact HB.out | apply below_alloc | apply pw_below_drewN | apply below_drew1 | refine below_set ?_ GE197.out) | exact HB.out))) : w.heap.size ≤ gb198)); have n5_ := Aside0.mk ((by rw [hg]; exact Nat.ne_of_lt (blk_lt (g := gb197) (o := .cells #[.int .i64 a0_0, .int .u64 a0_1, .string a0_2] 27 (0, 0)) (by (with_reducible repeat (first | refine blk_drewN ?_ _ | refine blk_drew ?_ | refine blk_alloc ?_ _)); exact BK197.out)) : gb197 ≠ gb198)); have n6_ := Aside0.mk ((by rw [hg]; exact Nat.ne_of_gt (blk_lt (g := gb197) (o := .cells #[.int .i64 a0_0, .int .u64 a0_1, .string a0_2] 27 (0, 0)) (by (with_reducible repeat (first | refine blk_drewN ?_ _ | refine blk_drew ?_ | refine blk_alloc ?_ _)); exact BK197.out)) : gb198 ≠ gb197)); clear BK197; clear HB; have BK197 := n0_; have HB := n1_; have BK198 := n2_; have GW198 := n3_; have GE198 := n4_; have NB197_198 := n5_; have NB198_197 := n6_; clear n0_ n1_ n2_ n3_ n4_ n5_ n6_; clear hb hbox hg) | ((with_reducible refine gate_dst (N := 5) rfl ?_); refine box_event ?hg (N := 5) ?hd (cs := #[.int .i64 a2_0, .int .u64 a2_1, .string a2_2]) (t := 27) ?hr ?_; (case hd => rfl); (case hg => rfl); (case hr => first | (go_simp; done) | (go_simp; rfl)); intro gb199 hg w12 hbox hb; have n0_ := Aside0.mk (blk_below (g := gb197) (o := .cells #[.int .i64 a0_0, .int .u64 a0_1, .string a0_2] 27 (0, 0)) (by (with_reducible repeat (first | refine blk_drewN ?_ _ | refine blk_drew ?_ | refine blk_alloc ?_ _)); exact BK197.out) hb); have n1_ := Aside0.mk (blk_below (g := gb198) (o := .cells #[.int .i64 a1_0, .int .u64 a1_1, .string a1_2] 27 (0, 0)) (by (with_reducible repeat (first | refine blk_drewN ?_ _ | refine blk_drew ?_ | refine blk_alloc ?_ _)); exact BK198.out) hb); have n2_ := Aside0.mk (below_step (by repeat (first | (with_reducible first | exact HB.out | apply below_alloc | apply pw_below_drewN | apply below_drew1 | refine below_set ?_ GE197.out | refine below_set ?_ GE198.out) | exact HB.out)) hb); have n3_ := Aside0.mk (hbox); have n4_ := Aside0.mk ((by rw [hg]; exact (below_size (by repeat (first | (with_reducible first | exact HB.out | apply below_alloc | apply pw_below_drewN | apply below_drew1 | refine below_set ?_ GE197.out | refine below_set ?_ GE198.out) | exact HB.out))) : w.heap.size ≤ gb199)); have n5_ := Aside0.mk ((by rw [hg]; exact (below_size (by repeat (first | (with_reducible first | exact HB.out | apply below_alloc | apply pw_below_drewN | apply below_drew1 | refine below_set ?_ GE197.out | refine below_set ?_ GE198.out) | exact HB.out))) : w.heap.size ≤ gb199)); have n6_ := Aside0.mk ((by rw [hg]; exact Nat.ne_of_lt (blk_lt (g := gb197) (o := .cells #[.int .i64 a0_0, .int .u64 a0_1, .string a0_2] 27 (0, 0)) (by (with_reducible repeat (first | refine blk_drewN ?_ _ | refine blk_drew ?_ | refine blk_alloc ?_ _)); exact BK197.out)) : gb197 ≠ gb199)); have n7_ := Aside0.mk ((by rw [hg]; exact Nat.ne_of_gt (blk_lt (g := gb197) (o := .cells #[.int .i64 a0_0, .int .u64 a0_1, .string a0_2] 27 (0, 0)) (by (with_reducible repeat (first | refine blk_drewN ?_ _ | refine blk_drew ?_ | refine blk_alloc ?_ _)); exact BK197.out)) : gb199 ≠ gb197)); have n8_ := Aside0.mk ((by rw [hg]; exact Nat.ne_of_lt (blk_lt (g := gb198) (o := .cells #[.int .i64 a1_0, .int .u64 a1_1, .string a1_2] 27 (0, 0)) (by (with_reducible repeat (first | refine blk_drewN ?_ _ | refine blk_drew ?_ | refine blk_alloc ?_ _)); exact BK198.out)) : gb198 ≠ gb199)); have n9_ := Aside0.mk ((by rw [hg]; exact Nat.ne_of_gt (blk_lt (g := gb198) (o := .cells #[.int .i64 a1_0, .int .u64 a1_1, .string a1_2] 27 (0, 0)) (by (with_reducible repeat (first | refine blk_drewN ?_ _ | refine blk_drew ?_ | refine blk_alloc ?_ _)); exact BK198.out)) : gb199 ≠ gb198)); clear BK197; clear BK198; clear HB; have BK197 := n0_; have BK198 := n1_; have HB := n2_; have BK199 := n3_; have GW199 := n4_; have GE199 := n5_; have NB197_199 := n6_; have NB199_197 := n7_; have NB198_199 := n8_; have NB199_198 := n9_; clear n0_ n1_ n2_ n3_ n4_ n5_ n6_ n7_ n8_ n9_; clear hb hbox hg) | ((with_reducible refine gate_callee (f := 9) rfl ?_); refine goesL_ (some 10) rfl rfl Try.func9 (by kernel_rfl) rfl #[] rfl (by (try simp only [List.map_toArray, List.map_cons, List.map_nil]); first | done | rfl | (simp only [List.length_drop, List.length_take]; rfl)) ?_; (with_reducible refine (stratumlaw04_awake.calls k  true _ A4.out).mono ?_); rintro e w13 ⟨rfl, hb⟩; refine ⟨_, rfl, ?_⟩; have n0_ := Aside0.mk (blk_below (g := gb197) (o := .cells #[.int .i64 a0_0, .int .u64 a0_1, .string a0_2] 27 (0, 0)) (by (with_reducible repeat (first | refine blk_drewN ?_ _ | refine blk_drew ?_ | refine blk_alloc ?_ _)); exact BK197.out) hb); have n1_ := Aside0.mk (blk_below (g := gb198) (o := .cells #[.int .i64 a1_0, .int .u64 a1_1, .string a1_2] 27 (0, 0)) (by (with_reducible repeat (first | refine blk_drewN ?_ _ | refine blk_drew ?_ | refine blk_alloc ?_ _)); exact BK198.out) hb); have n2_ := Aside0.mk (blk_below (g := gb199) (o := .cells #[.int .i64 a2_0, .int .u64 a2_1, .string a2_2] 27 (0, 0)) (by (with_reducible repeat (first | refine blk_drewN ?_ _ | refine blk_drew ?_ | refine blk_alloc ?_ _)); exact BK199.out) hb); have n3_ := Aside0.mk (below_step (by repeat (first | (with_reducible first | exact HB.out | apply below_alloc | apply pw_below_drewN | apply below_drew1 | refine below_set ?_ GE197.out | refine below_set ?_ GE198.out | refine below_set ?_ GE199.out) | exact HB.out)) hb); clear BK197; clear BK198; clear BK199; clear HB; have BK197 := n0_; have BK198 := n1_; have BK199 := n2_; have HB := n3_; clear n0_ n1_ n2_ n3_; (try clear hb); (try clear hb2); (try clear hk); (try clear hi); have hnb14 := NB197_198.out; have hnc14 := NB198_197.out; have hnb15 := NB197_199.out; have hnc15 := NB199_197.out; have hcz16_0 : w13.cell? ⟨gb197, 0, none⟩ = some (.int .i64 a0_0) := (blk_cell BK197.out 0).trans rfl; have hcz16_1 : w13.cell? ⟨gb197, 1, none⟩ = some (.int .u64 a0_1) := (blk_cell BK197.out 1).trans rfl; have hcz16_2 : w13.cell? ⟨gb197, 2, none⟩ = some (.string a0_2) := (blk_cell BK197.out 2).trans rfl; have hfz16_0 := blk_frozen BK197.out 0; have hfz16_1 := blk_frozen BK197.out 1; have hfz16_2 := blk_frozen BK197.out 2; have hnb17 := NB198_199.out; have hnc17 := NB199_198.out; have hcz18_0 : w13.cell? ⟨gb198, 0, none⟩ = some (.int .i64 a1_0) := (blk_cell BK198.out 0).trans rfl; have hcz18_1 : w13.cell? ⟨gb198, 1, none⟩ = some (.int .u64 a1_1) := (blk_cell BK198.out 1).trans rfl; have hcz18_2 : w13.cell? ⟨gb198, 2, none⟩ = some (.string a1_2) := (blk_cell BK198.out 2).trans rfl; have hfz18_0 := blk_frozen BK198.out 0; have hfz18_1 := blk_frozen BK198.out 1; have hfz18_2 := blk_frozen BK198.out 2) | ((with_reducible refine gate_callee (f := 12) rfl ?_); refine goesL_ (some 14) rfl rfl Try.func12 (by kernel_rfl) rfl #[.agg #[.int .i64 a0_0, .int .u64 a0_1, .string a0_2], .agg #[.int .i64 a1_0, .int .u64 a1_1, .string a1_2]] rfl (by (try simp only [List.map_toArray, List.map_cons, List.map_nil]); first | done | rfl | (simp only [List.length_drop, List.length_take]; rfl)) ?_; (with_reducible refine (kind_Order.calls k a0_0 a0_1 a0_2 a1_0 a1_1 a1_2 t201 _ A6.out).mono ?_); rintro e w19 ⟨rfl, hb⟩; refine ⟨_, rfl, ?_⟩; have n0_ := Aside0.mk (blk_below (g := gb197) (o := .cells #[.int .i64 a0_0, .int .u64 a0_1, .string a0_2] 27 (0, 0)) (by (with_reducible repeat (first | refine blk_drewN ?_ _ | refine blk_drew ?_ | refine blk_alloc ?_ _)); exact BK197.out) hb); have n1_ := Aside0.mk (blk_below (g := gb198) (o := .cells #[.int .i64 a1_0, .int .u64 a1_1, .string a1_2] 27 (0, 0)) (by (with_reducible repeat (first | refine blk_drewN ?_ _ | refine blk_drew ?_ | refine blk_alloc ?_ _)); exact BK198.out) hb); have n2_ := Aside0.mk (blk_below (g := gb199) (o := .cells #[.int .i64 a2_0, .int .u64 a2_1, .string a2_2] 27 (0, 0)) (by (with_reducible repeat (first | refine blk_drewN ?_ _ | refine blk_drew ?_ | refine blk_alloc ?_ _)); exact BK199.out) hb); have n3_ := Aside0.mk (below_step (by repeat (first | (with_reducible first | exact HB.out | apply below_alloc | apply pw_below_drewN | apply below_drew1 | refine below_set ?_ GE197.out | refine below_set ?_ GE198.out | refine below_set ?_ GE199.out) | exact HB.out)) hb); clear BK197; clear BK198; clear BK199; clear HB; have BK197 := n0_; have BK198 := n1_; have BK199 := n2_; have HB := n3_; clear n0_ n1_ n2_ n3_; (try clear hb); (try clear hb2); (try clear hk); (try clear hi); have hcz20_0 : w19.cell? ⟨gb198, 0, none⟩ = some (.int .i64 a1_0) := (blk_cell BK198.out 0).trans rfl; have hcz20_1 : w19.cell? ⟨gb198, 1, none⟩ = some (.int .u64 a1_1) := (blk_cell BK198.out 1).trans rfl; have hcz20_2 : w19.cell? ⟨gb198, 2, none⟩ = some (.string a1_2) := (blk_cell BK198.out 2).trans rfl; have hfz20_0 := blk_frozen BK198.out 0; have hfz20_1 := blk_frozen BK198.out 1; have hfz20_2 := blk_frozen BK198.out 2; have hcz21_0 : w19.cell? ⟨gb199, 0, none⟩ = some (.int .i64 a2_0) := (blk_cell BK199.out 0).trans rfl; have hcz21_1 : w19.cell? ⟨gb199, 1, none⟩ = some (.int .u64 a2_1) := (blk_cell BK199.out 1).trans rfl; have hcz21_2 : w19.cell? ⟨gb199, 2, none⟩ = some (.string a2_2) := (blk_cell BK199.out 2).trans rfl; have hfz21_0 := blk_frozen BK199.out 0; have hfz21_1 := blk_frozen BK199.out 1; have hfz21_2 := blk_frozen BK199.out 2) | ((with_reducible refine gate_callee (f := 12) rfl ?_); refine goesL_ (some 17) rfl rfl Try.func12 (by kernel_rfl) rfl #[.agg #[.int .i64 a1_0, .int .u64 a1_1, .string a1_2], .agg #[.int .i64 a2_0, .int .u64 a2_1, .string a2_2]] rfl (by (try simp only [List.map_toArray, List.map_cons, List.map_nil]); first | done | rfl | (simp only [List.length_drop, List.length_take]; rfl)) ?_; (with_reducible refine (kind_Order.calls k a1_0 a1_1 a1_2 a2_0 a2_1 a2_2 t202 _ A7.out).mono ?_); rintro e w22 ⟨rfl, hb⟩; refine ⟨_, rfl, ?_⟩; have n0_ := Aside0.mk (blk_below (g := gb197) (o := .cells #[.int .i64 a0_0, .int .u64 a0_1, .string a0_2] 27 (0, 0)) (by (with_reducible repeat (first | refine blk_drewN ?_ _ | refine blk_drew ?_ | refine blk_alloc ?_ _)); exact BK197.out) hb); have n1_ := Aside0.mk (blk_below (g := gb198) (o := .cells #[.int .i64 a1_0, .int .u64 a1_1, .string a1_2] 27 (0, 0)) (by (with_reducible repeat (first | refine blk_drewN ?_ _ | refine blk_drew ?_ | refine blk_alloc ?_ _)); exact BK198.out) hb); have n2_ := Aside0.mk (blk_below (g := gb199) (o := .cells #[.int .i64 a2_0, .int .u64 a2_1, .string a2_2] 27 (0, 0)) (by (with_reducible repeat (first | refine blk_drewN ?_ _ | refine blk_drew ?_ | refine blk_alloc ?_ _)); exact BK199.out) hb); have n3_ := Aside0.mk (below_step (by repeat (first | (with_reducible first | exact HB.out | apply below_alloc | apply pw_below_drewN | apply below_drew1 | refine below_set ?_ GE197.out | refine below_set ?_ GE198.out | refine below_set ?_ GE199.out) | exact HB.out)) hb); clear BK197; clear BK198; clear BK199; clear HB; have BK197 := n0_; have BK198 := n1_; have BK199 := n2_; have HB := n3_; clear n0_ n1_ n2_ n3_; (try clear hb); (try clear hb2); (try clear hk); (try clear hi); have hcz23_0 : w22.cell? ⟨gb197, 0, none⟩ = some (.int .i64 a0_0) := (blk_cell BK197.out 0).trans rfl; have hcz23_1 : w22.cell? ⟨gb197, 1, none⟩ = some (.int .u64 a0_1) := (blk_cell BK197.out 1).trans rfl; have hcz23_2 : w22.cell? ⟨gb197, 2, none⟩ = some (.string a0_2) := (blk_cell BK197.out 2).trans rfl; have hfz23_0 := blk_frozen BK197.out 0; have hfz23_1 := blk_frozen BK197.out 1; have hfz23_2 := blk_frozen BK197.out 2; have hcz24_0 : w22.cell? ⟨gb199, 0, none⟩ = some (.int .i64 a2_0) := (blk_cell BK199.out 0).trans rfl; have hcz24_1 : w22.cell? ⟨gb199, 1, none⟩ = some (.int .u64 a2_1) := (blk_cell BK199.out 1).trans rfl; have hcz24_2 : w22.cell? ⟨gb199, 2, none⟩ = some (.string a2_2) := (blk_cell BK199.out 2).trans rfl; have hfz24_0 := blk_frozen BK199.out 0; have hfz24_1 := blk_frozen BK199.out 1; have hfz24_2 := blk_frozen BK199.out 2) | ((with_reducible refine gate_callee (f := 12) rfl ?_); refine goesL_ (some 20) rfl rfl Try.func12 (by kernel_rfl) rfl #[.agg #[.int .i64 a0_0, .int .u64 a0_1, .string a0_2], .agg #[.int .i64 a2_0, .int .u64 a2_1, .string a2_2]] rfl (by (try simp only [List.map_toArray, List.map_cons, List.map_nil]); first | done | rfl | (simp only [List.length_drop, List.length_take]; rfl)) ?_; (with_reducible refine (kind_Order.calls k a0_0 a0_1 a0_2 a2_0 a2_1 a2_2 t203 _ A8.out).mono ?_); rintro e w25 ⟨rfl, hb⟩; refine ⟨_, rfl, ?_⟩; have n0_ := Aside0.mk (blk_below (g := gb197) (o := .cells #[.int .i64 a0_0, .int .u64 a0_1, .string a0_2] 27 (0, 0)) (by (with_reducible repeat (first | refine blk_drewN ?_ _ | refine blk_drew ?_ | refine blk_alloc ?_ _)); exact BK197.out) hb); have n1_ := Aside0.mk (blk_below (g := gb198) (o := .cells #[.int .i64 a1_0, .int .u64 a1_1, .string a1_2] 27 (0, 0)) (by (with_reducible repeat (first | refine blk_drewN ?_ _ | refine blk_drew ?_ | refine blk_alloc ?_ _)); exact BK198.out) hb); have n2_ := Aside0.mk (blk_below (g := gb199) (o := .cells #[.int .i64 a2_0, .int .u64 a2_1, .string a2_2] 27 (0, 0)) (by (with_reducible repeat (first | refine blk_drewN ?_ _ | refine blk_drew ?_ | refine blk_alloc ?_ _)); exact BK199.out) hb); have n3_ := Aside0.mk (below_step (by repeat (first | (with_reducible first | exact HB.out | apply below_alloc | apply pw_below_drewN | apply below_drew1 | refine below_set ?_ GE197.out | refine below_set ?_ GE198.out | refine below_set ?_ GE199.out) | exact HB.out)) hb); clear BK197; clear BK198; clear BK199; clear HB; have BK197 := n0_; have BK198 := n1_; have BK199 := n2_; have HB := n3_; clear n0_ n1_ n2_ n3_; (try clear hb); (try clear hb2); (try clear hk); (try clear hi)))
    (try simp only [Act.put, List.setIfInBounds_toArray, List.set_cons_zero, List.set_cons_succ])
    go_cut [42] (fun v42 wc => ∃ (kq : Nat) (x42_8 : Bool), v42 = .bool x42_8 ∧ Aside0 (stratumlaw04_KindOrder.j0 kq t201 t202 t203 x42_8 a0_0 a0_1 a0_2 a1_0 a1_1 a1_2 = some r) ∧ Aside0 (kq ≤ k) ∧ Aside0 (wc.heap[gb197]? = some (.cells #[.int .i64 a0_0, .int .u64 a0_1, .string a0_2] 27 (0, 0))) ∧ Aside0 (wc.heap[gb198]? = some (.cells #[.int .i64 a1_0, .int .u64 a1_1, .string a1_2] 27 (0, 0))) ∧ Aside0 (wc.heap[gb199]? = some (.cells #[.int .i64 a2_0, .int .u64 a2_1, .string a2_2] 27 (0, 0))) ∧ Aside0 (Below w.heap.size w wc))
    case first =>
      have H := HC9.out
      clear HC9
      by_cases c26 : t201 < (-1)
      · rw [if_pos c26] at H
        have c26b0 : decide (t201 < (-1)) = true := decide_eq_true c26
        clear c26
        (first | rw [c26b0] | (simp only [i64_w, i32_w]; rw [c26b0]) | skip)
        have H' := Aside0.mk H
        clear H
        go_wp2
        go_meet
        case rel => exact ⟨_, (true), (by first | rfl | (simp; done) | (simp [*]; done)), H', ⟨by first | omega | exact Nat.le_refl _⟩, ⟨by (with_reducible repeat (first | refine blk_drewN ?_ _ | refine blk_drew ?_ | refine blk_alloc ?_ _)); exact BK197.out⟩, ⟨by (with_reducible repeat (first | refine blk_drewN ?_ _ | refine blk_drew ?_ | refine blk_alloc ?_ _)); exact BK198.out⟩, ⟨by (with_reducible repeat (first | refine blk_drewN ?_ _ | refine blk_drew ?_ | refine blk_alloc ?_ _)); exact BK199.out⟩, ⟨by repeat (first | (with_reducible first | exact HB.out | apply below_alloc | apply pw_below_drewN | apply below_drew1 | refine below_set ?_ GE197.out | refine below_set ?_ GE198.out | refine below_set ?_ GE199.out) | exact HB.out)⟩⟩
      · rw [if_neg c26] at H
        have c26b0 : decide (t201 < (-1)) = false := decide_eq_false c26
        clear c26
        (first | rw [c26b0] | (simp only [i64_w, i32_w]; rw [c26b0]) | skip)
        by_cases c27 : t201 > 1
        · rw [if_pos c27] at H
          have c27b0 : decide (1 < t201) = true := decide_eq_true c27
          clear c27
          have H' := Aside0.mk H
          clear H
          go_wp2
          go_meet
          case rel => exact ⟨_, (true), (by first | rfl | (simp; done) | (simp [*]; done)), H', ⟨by first | omega | exact Nat.le_refl _⟩, ⟨by (with_reducible repeat (first | refine blk_drewN ?_ _ | refine blk_drew ?_ | refine blk_alloc ?_ _)); exact BK197.out⟩, ⟨by (with_reducible repeat (first | refine blk_drewN ?_ _ | refine blk_drew ?_ | refine blk_alloc ?_ _)); exact BK198.out⟩, ⟨by (with_reducible repeat (first | refine blk_drewN ?_ _ | refine blk_drew ?_ | refine blk_alloc ?_ _)); exact BK199.out⟩, ⟨by repeat (first | (with_reducible first | exact HB.out | apply below_alloc | apply pw_below_drewN | apply below_drew1 | refine below_set ?_ GE197.out | refine below_set ?_ GE198.out | refine below_set ?_ GE199.out) | exact HB.out)⟩⟩
        · rw [if_neg c27] at H
          have c27b0 : decide (1 < t201) = false := decide_eq_false c27
          clear c27
          replace H := Option.bind_eq_some_iff.mp H
          obtain ⟨t204, A280, H⟩ := H
          replace H : (if t204 = (wrap64 (-t201)) then (if (a0_0 == a1_0 && (a0_1 == a1_1 && (a0_2.toList == a1_2.toList))) = true then (stratumlaw04_KindOrder.j0 k t201 t202 t203 ((t201 == 0) != true) a0_0 a0_1 a0_2 a1_0 a1_1 a1_2) else (stratumlaw04_KindOrder.j0 k t201 t202 t203 ((t201 == 0) != false) a0_0 a0_1 a0_2 a1_0 a1_1 a1_2)) else (stratumlaw04_KindOrder.j0 k t201 t202 t203 true a0_0 a0_1 a0_2 a1_0 a1_1 a1_2)) = some r := H
          have A28 := Aside0.mk A280
          clear A280
          by_cases c29 : t204 = (wrap64 (-t201))
          · rw [if_pos c29] at H
            have c29b0 : (t204 == (wrap64 (-t201))) = true := beq_iff_eq.mpr c29
            have c29b1 : (t204 != (wrap64 (-t201))) = false := bne_eq_false_iff_eq.mpr c29
            clear c29
            by_cases c30 : (a0_0 == a1_0 && (a0_1 == a1_1 && (a0_2.toList == a1_2.toList))) = true
            · rw [if_pos c30] at H
              have c30b0 : (a0_0 == a1_0 && (a0_1 == a1_1 && (a0_2.toList == a1_2.toList))) = true := c30
              (try (have c30b1 : decide (a0_0 = a1_0 && (a0_1 == a1_1 && (a0_2.toList == a1_2.toList))) = true := by simpa using c30))
              (try (have c30b2 : (a0_0 == a1_0 && (a0_1 == a1_1 && (a0_2.toList == a1_2.toList))) = true := by simpa using c30))
              clear c30
              have H' := Aside0.mk H
              clear H
              have hnb31 := NB198_197.out
              have hnc31 := NB197_198.out
              have hnb32 := NB198_199.out
              have hnc32 := NB199_198.out
              have hcz33_0 : w25.cell? ⟨gb198, 0, none⟩ = some (.int .i64 a1_0) := (blk_cell BK198.out 0).trans rfl
              have hcz33_1 : w25.cell? ⟨gb198, 1, none⟩ = some (.int .u64 a1_1) := (blk_cell BK198.out 1).trans rfl
              have hcz33_2 : w25.cell? ⟨gb198, 2, none⟩ = some (.string a1_2) := (blk_cell BK198.out 2).trans rfl
              have hfz33_0 := blk_frozen BK198.out 0
              have hfz33_1 := blk_frozen BK198.out 1
              have hfz33_2 := blk_frozen BK198.out 2
              have hnb34 := NB197_199.out
              have hnc34 := NB199_197.out
              have hcz35_0 : w25.cell? ⟨gb197, 0, none⟩ = some (.int .i64 a0_0) := (blk_cell BK197.out 0).trans rfl
              have hcz35_1 : w25.cell? ⟨gb197, 1, none⟩ = some (.int .u64 a0_1) := (blk_cell BK197.out 1).trans rfl
              have hcz35_2 : w25.cell? ⟨gb197, 2, none⟩ = some (.string a0_2) := (blk_cell BK197.out 2).trans rfl
              have hfz35_0 := blk_frozen BK197.out 0
              have hfz35_1 := blk_frozen BK197.out 1
              have hfz35_2 := blk_frozen BK197.out 2
              go_wp2_with (first | (go_at_call 12; (with_reducible refine (kind_Order.calls k a1_0 a1_1 a1_2 a0_0 a0_1 a0_2 t204 _ A28.out).mono ?_); rintro e w36 ⟨rfl, hb⟩; have n0_ := Aside0.mk (blk_below (g := gb197) (o := .cells #[.int .i64 a0_0, .int .u64 a0_1, .string a0_2] 27 (0, 0)) (by (with_reducible repeat (first | refine blk_drewN ?_ _ | refine blk_drew ?_ | refine blk_alloc ?_ _)); exact BK197.out) hb); have n1_ := Aside0.mk (blk_below (g := gb198) (o := .cells #[.int .i64 a1_0, .int .u64 a1_1, .string a1_2] 27 (0, 0)) (by (with_reducible repeat (first | refine blk_drewN ?_ _ | refine blk_drew ?_ | refine blk_alloc ?_ _)); exact BK198.out) hb); have n2_ := Aside0.mk (blk_below (g := gb199) (o := .cells #[.int .i64 a2_0, .int .u64 a2_1, .string a2_2] 27 (0, 0)) (by (with_reducible repeat (first | refine blk_drewN ?_ _ | refine blk_drew ?_ | refine blk_alloc ?_ _)); exact BK199.out) hb); have n3_ := Aside0.mk (below_step (by repeat (first | (with_reducible first | exact HB.out | apply below_alloc | apply pw_below_drewN | apply below_drew1 | refine below_set ?_ GE197.out | refine below_set ?_ GE198.out | refine below_set ?_ GE199.out) | exact HB.out)) hb); clear BK197; clear BK198; clear BK199; clear HB; have BK197 := n0_; have BK198 := n1_; have BK199 := n2_; have HB := n3_; clear n0_ n1_ n2_ n3_; (try clear hb); (try clear hb2); (try clear hk); (try clear hi); have hcz37_0 : w36.cell? ⟨gb197, 0, none⟩ = some (.int .i64 a0_0) := (blk_cell BK197.out 0).trans rfl; have hcz37_1 : w36.cell? ⟨gb197, 1, none⟩ = some (.int .u64 a0_1) := (blk_cell BK197.out 1).trans rfl; have hcz37_2 : w36.cell? ⟨gb197, 2, none⟩ = some (.string a0_2) := (blk_cell BK197.out 2).trans rfl; have hfz37_0 := blk_frozen BK197.out 0; have hfz37_1 := blk_frozen BK197.out 1; have hfz37_2 := blk_frozen BK197.out 2; have hcz38_0 : w36.cell? ⟨gb198, 0, none⟩ = some (.int .i64 a1_0) := (blk_cell BK198.out 0).trans rfl; have hcz38_1 : w36.cell? ⟨gb198, 1, none⟩ = some (.int .u64 a1_1) := (blk_cell BK198.out 1).trans rfl; have hcz38_2 : w36.cell? ⟨gb198, 2, none⟩ = some (.string a1_2) := (blk_cell BK198.out 2).trans rfl; have hfz38_0 := blk_frozen BK198.out 0; have hfz38_1 := blk_frozen BK198.out 1; have hfz38_2 := blk_frozen BK198.out 2))
              go_meet
              case rel => exact ⟨_, (((t201 == 0) != true)), (by first | rfl | (simp; done) | (simp [*]; done)), H', ⟨by first | omega | exact Nat.le_refl _⟩, ⟨by (with_reducible repeat (first | refine blk_drewN ?_ _ | refine blk_drew ?_ | refine blk_alloc ?_ _)); exact BK197.out⟩, ⟨by (with_reducible repeat (first | refine blk_drewN ?_ _ | refine blk_drew ?_ | refine blk_alloc ?_ _)); exact BK198.out⟩, ⟨by (with_reducible repeat (first | refine blk_drewN ?_ _ | refine blk_drew ?_ | refine blk_alloc ?_ _)); exact BK199.out⟩, ⟨by repeat (first | (with_reducible first | exact HB.out | apply below_alloc | apply pw_below_drewN | apply below_drew1 | refine below_set ?_ GE197.out | refine below_set ?_ GE198.out | refine below_set ?_ GE199.out) | exact HB.out)⟩⟩
            · rw [if_neg c30] at H
              have c30b0 : (a0_0 == a1_0 && (a0_1 == a1_1 && (a0_2.toList == a1_2.toList))) = false := by simpa using c30
              (try (have c30b1 : decide (a0_0 = a1_0 && (a0_1 == a1_1 && (a0_2.toList == a1_2.toList))) = false := by simpa using c30))
              (try (have c30b2 : (a0_0 == a1_0 && (a0_1 == a1_1 && (a0_2.toList == a1_2.toList))) = false := by simpa using c30))
              (try (have c30b3 : ¬ (a0_0 = a1_0 && (a0_1 == a1_1 && (a0_2.toList == a1_2.toList))) := by simpa using c30))
              clear c30
              have H' := Aside0.mk H
              clear H
              have hnb39 := NB198_197.out
              have hnc39 := NB197_198.out
              have hnb40 := NB198_199.out
              have hnc40 := NB199_198.out
              have hcz41_0 : w25.cell? ⟨gb198, 0, none⟩ = some (.int .i64 a1_0) := (blk_cell BK198.out 0).trans rfl
              have hcz41_1 : w25.cell? ⟨gb198, 1, none⟩ = some (.int .u64 a1_1) := (blk_cell BK198.out 1).trans rfl
              have hcz41_2 : w25.cell? ⟨gb198, 2, none⟩ = some (.string a1_2) := (blk_cell BK198.out 2).trans rfl
              have hfz41_0 := blk_frozen BK198.out 0
              have hfz41_1 := blk_frozen BK198.out 1
              have hfz41_2 := blk_frozen BK198.out 2
              have hnb42 := NB197_199.out
              have hnc42 := NB199_197.out
              have hcz43_0 : w25.cell? ⟨gb197, 0, none⟩ = some (.int .i64 a0_0) := (blk_cell BK197.out 0).trans rfl
              have hcz43_1 : w25.cell? ⟨gb197, 1, none⟩ = some (.int .u64 a0_1) := (blk_cell BK197.out 1).trans rfl
              have hcz43_2 : w25.cell? ⟨gb197, 2, none⟩ = some (.string a0_2) := (blk_cell BK197.out 2).trans rfl
              have hfz43_0 := blk_frozen BK197.out 0
              have hfz43_1 := blk_frozen BK197.out 1
              have hfz43_2 := blk_frozen BK197.out 2
              go_wp2_with (first | (go_at_call 12; (with_reducible refine (kind_Order.calls k a1_0 a1_1 a1_2 a0_0 a0_1 a0_2 t204 _ A28.out).mono ?_); rintro e w44 ⟨rfl, hb⟩; have n0_ := Aside0.mk (blk_below (g := gb197) (o := .cells #[.int .i64 a0_0, .int .u64 a0_1, .string a0_2] 27 (0, 0)) (by (with_reducible repeat (first | refine blk_drewN ?_ _ | refine blk_drew ?_ | refine blk_alloc ?_ _)); exact BK197.out) hb); have n1_ := Aside0.mk (blk_below (g := gb198) (o := .cells #[.int .i64 a1_0, .int .u64 a1_1, .string a1_2] 27 (0, 0)) (by (with_reducible repeat (first | refine blk_drewN ?_ _ | refine blk_drew ?_ | refine blk_alloc ?_ _)); exact BK198.out) hb); have n2_ := Aside0.mk (blk_below (g := gb199) (o := .cells #[.int .i64 a2_0, .int .u64 a2_1, .string a2_2] 27 (0, 0)) (by (with_reducible repeat (first | refine blk_drewN ?_ _ | refine blk_drew ?_ | refine blk_alloc ?_ _)); exact BK199.out) hb); have n3_ := Aside0.mk (below_step (by repeat (first | (with_reducible first | exact HB.out | apply below_alloc | apply pw_below_drewN | apply below_drew1 | refine below_set ?_ GE197.out | refine below_set ?_ GE198.out | refine below_set ?_ GE199.out) | exact HB.out)) hb); clear BK197; clear BK198; clear BK199; clear HB; have BK197 := n0_; have BK198 := n1_; have BK199 := n2_; have HB := n3_; clear n0_ n1_ n2_ n3_; (try clear hb); (try clear hb2); (try clear hk); (try clear hi); have hcz45_0 : w44.cell? ⟨gb197, 0, none⟩ = some (.int .i64 a0_0) := (blk_cell BK197.out 0).trans rfl; have hcz45_1 : w44.cell? ⟨gb197, 1, none⟩ = some (.int .u64 a0_1) := (blk_cell BK197.out 1).trans rfl; have hcz45_2 : w44.cell? ⟨gb197, 2, none⟩ = some (.string a0_2) := (blk_cell BK197.out 2).trans rfl; have hfz45_0 := blk_frozen BK197.out 0; have hfz45_1 := blk_frozen BK197.out 1; have hfz45_2 := blk_frozen BK197.out 2; have hcz46_0 : w44.cell? ⟨gb198, 0, none⟩ = some (.int .i64 a1_0) := (blk_cell BK198.out 0).trans rfl; have hcz46_1 : w44.cell? ⟨gb198, 1, none⟩ = some (.int .u64 a1_1) := (blk_cell BK198.out 1).trans rfl; have hcz46_2 : w44.cell? ⟨gb198, 2, none⟩ = some (.string a1_2) := (blk_cell BK198.out 2).trans rfl; have hfz46_0 := blk_frozen BK198.out 0; have hfz46_1 := blk_frozen BK198.out 1; have hfz46_2 := blk_frozen BK198.out 2))
              go_meet
              case rel => exact ⟨_, (((t201 == 0) != false)), (by first | rfl | (simp; done) | (simp [*]; done)), H', ⟨by first | omega | exact Nat.le_refl _⟩, ⟨by (with_reducible repeat (first | refine blk_drewN ?_ _ | refine blk_drew ?_ | refine blk_alloc ?_ _)); exact BK197.out⟩, ⟨by (with_reducible repeat (first | refine blk_drewN ?_ _ | refine blk_drew ?_ | refine blk_alloc ?_ _)); exact BK198.out⟩, ⟨by (with_reducible repeat (first | refine blk_drewN ?_ _ | refine blk_drew ?_ | refine blk_alloc ?_ _)); exact BK199.out⟩, ⟨by repeat (first | (with_reducible first | exact HB.out | apply below_alloc | apply pw_below_drewN | apply below_drew1 | refine below_set ?_ GE197.out | refine below_set ?_ GE198.out | refine below_set ?_ GE199.out) | exact HB.out)⟩⟩
          · rw [if_neg c29] at H
            have c29b0 : (t204 == (wrap64 (-t201))) = false := beq_eq_false_iff_ne.mpr c29
            have c29b1 : (t204 != (wrap64 (-t201))) = true := bne_iff_ne.mpr c29
            have H' := Aside0.mk H
            clear H
            have hnb47 := NB198_197.out
            have hnc47 := NB197_198.out
            have hnb48 := NB198_199.out
            have hnc48 := NB199_198.out
            have hcz49_0 : w25.cell? ⟨gb198, 0, none⟩ = some (.int .i64 a1_0) := (blk_cell BK198.out 0).trans rfl
            have hcz49_1 : w25.cell? ⟨gb198, 1, none⟩ = some (.int .u64 a1_1) := (blk_cell BK198.out 1).trans rfl
            have hcz49_2 : w25.cell? ⟨gb198, 2, none⟩ = some (.string a1_2) := (blk_cell BK198.out 2).trans rfl
            have hfz49_0 := blk_frozen BK198.out 0
            have hfz49_1 := blk_frozen BK198.out 1
            have hfz49_2 := blk_frozen BK198.out 2
            have hnb50 := NB197_199.out
            have hnc50 := NB199_197.out
            have hcz51_0 : w25.cell? ⟨gb197, 0, none⟩ = some (.int .i64 a0_0) := (blk_cell BK197.out 0).trans rfl
            have hcz51_1 : w25.cell? ⟨gb197, 1, none⟩ = some (.int .u64 a0_1) := (blk_cell BK197.out 1).trans rfl
            have hcz51_2 : w25.cell? ⟨gb197, 2, none⟩ = some (.string a0_2) := (blk_cell BK197.out 2).trans rfl
            have hfz51_0 := blk_frozen BK197.out 0
            have hfz51_1 := blk_frozen BK197.out 1
            have hfz51_2 := blk_frozen BK197.out 2
            go_wp2_with (first | (go_at_call 12; (with_reducible refine (kind_Order.calls k a1_0 a1_1 a1_2 a0_0 a0_1 a0_2 t204 _ A28.out).mono ?_); rintro e w52 ⟨rfl, hb⟩; have n0_ := Aside0.mk (blk_below (g := gb197) (o := .cells #[.int .i64 a0_0, .int .u64 a0_1, .string a0_2] 27 (0, 0)) (by (with_reducible repeat (first | refine blk_drewN ?_ _ | refine blk_drew ?_ | refine blk_alloc ?_ _)); exact BK197.out) hb); have n1_ := Aside0.mk (blk_below (g := gb198) (o := .cells #[.int .i64 a1_0, .int .u64 a1_1, .string a1_2] 27 (0, 0)) (by (with_reducible repeat (first | refine blk_drewN ?_ _ | refine blk_drew ?_ | refine blk_alloc ?_ _)); exact BK198.out) hb); have n2_ := Aside0.mk (blk_below (g := gb199) (o := .cells #[.int .i64 a2_0, .int .u64 a2_1, .string a2_2] 27 (0, 0)) (by (with_reducible repeat (first | refine blk_drewN ?_ _ | refine blk_drew ?_ | refine blk_alloc ?_ _)); exact BK199.out) hb); have n3_ := Aside0.mk (below_step (by repeat (first | (with_reducible first | exact HB.out | apply below_alloc | apply pw_below_drewN | apply below_drew1 | refine below_set ?_ GE197.out | refine below_set ?_ GE198.out | refine below_set ?_ GE199.out) | exact HB.out)) hb); clear BK197; clear BK198; clear BK199; clear HB; have BK197 := n0_; have BK198 := n1_; have BK199 := n2_; have HB := n3_; clear n0_ n1_ n2_ n3_; (try clear hb); (try clear hb2); (try clear hk); (try clear hi)))
            go_meet
            case rel => exact ⟨_, (true), (by first | rfl | (simp; done) | (simp [*]; done)), H', ⟨by first | omega | exact Nat.le_refl _⟩, ⟨by (with_reducible repeat (first | refine blk_drewN ?_ _ | refine blk_drew ?_ | refine blk_alloc ?_ _)); exact BK197.out⟩, ⟨by (with_reducible repeat (first | refine blk_drewN ?_ _ | refine blk_drew ?_ | refine blk_alloc ?_ _)); exact BK198.out⟩, ⟨by (with_reducible repeat (first | refine blk_drewN ?_ _ | refine blk_drew ?_ | refine blk_alloc ?_ _)); exact BK199.out⟩, ⟨by repeat (first | (with_reducible first | exact HB.out | apply below_alloc | apply pw_below_drewN | apply below_drew1 | refine below_set ?_ GE197.out | refine below_set ?_ GE198.out | refine below_set ?_ GE199.out) | exact HB.out)⟩⟩
    case rest =>
      clear HC9
      try clear c1
      try clear c2
      try clear p2
      try clear c3
      try clear c4
      try clear c5
      try clear p6
      try clear c9
      try clear c12
      try clear c14
      try clear c15
      try clear c17
      try clear c26
      try clear c26b0
      try clear c27
      try clear c27b0
      try clear c29
      try clear c29b0
      try clear c29b1
      try clear c30
      try clear c30b0
      try clear c30b1
      try clear c30b2
      try clear c31
      try clear c32
      try clear c34
      try clear c39
      try clear c40
      try clear c42
      try clear c47
      try clear c48
      try clear c50
      try clear hcz16_0
      try clear hcz16_1
      try clear hcz16_2
      try clear hcz18_0
      try clear hcz18_1
      try clear hcz18_2
      try clear hcz20_0
      try clear hcz20_1
      try clear hcz20_2
      try clear hcz21_0
      try clear hcz21_1
      try clear hcz21_2
      try clear hcz23_0
      try clear hcz23_1
      try clear hcz23_2
      try clear hcz24_0
      try clear hcz24_1
      try clear hcz24_2
      try clear hcz33_0
      try clear hcz33_1
      try clear hcz33_2
      try clear hcz35_0
      try clear hcz35_1
      try clear hcz35_2
      try clear hcz37_0
      try clear hcz37_1
      try clear hcz37_2
      try clear hcz38_0
      try clear hcz38_1
      try clear hcz38_2
      try clear hcz41_0
      try clear hcz41_1
      try clear hcz41_2
      try clear hcz43_0
      try clear hcz43_1
      try clear hcz43_2
      try clear hcz45_0
      try clear hcz45_1
      try clear hcz45_2
      try clear hcz46_0
      try clear hcz46_1
      try clear hcz46_2
      try clear hcz49_0
      try clear hcz49_1
      try clear hcz49_2
      try clear hcz51_0
      try clear hcz51_1
      try clear hcz51_2
      try clear hfz16_0
      try clear hfz16_1
      try clear hfz16_2
      try clear hfz18_0
      try clear hfz18_1
      try clear hfz18_2
      try clear hfz20_0
      try clear hfz20_1
      try clear hfz20_2
      try clear hfz21_0
      try clear hfz21_1
      try clear hfz21_2
      try clear hfz23_0
      try clear hfz23_1
      try clear hfz23_2
      try clear hfz24_0
      try clear hfz24_1
      try clear hfz24_2
      try clear hfz33_0
      try clear hfz33_1
      try clear hfz33_2
      try clear hfz35_0
      try clear hfz35_1
      try clear hfz35_2
      try clear hfz37_0
      try clear hfz37_1
      try clear hfz37_2
      try clear hfz38_0
      try clear hfz38_1
      try clear hfz38_2
      try clear hfz41_0
      try clear hfz41_1
      try clear hfz41_2
      try clear hfz43_0
      try clear hfz43_1
      try clear hfz43_2
      try clear hfz45_0
      try clear hfz45_1
      try clear hfz45_2
      try clear hfz46_0
      try clear hfz46_1
      try clear hfz46_2
      try clear hfz49_0
      try clear hfz49_1
      try clear hfz49_2
      try clear hfz51_0
      try clear hfz51_1
      try clear hfz51_2
      obtain ⟨kq, x42_8, rfl, HA, HJ8, BK197, BK198, BK199, HB⟩ := hcut
      cases kq with
      | zero => exact absurd HA.out (by simp [stratumlaw04_KindOrder.j0])
      | succ kj8 =>
        have H := HA.out
        clear HA
        simp only [stratumlaw04_KindOrder.j0] at H
        by_cases c53 : x42_8 = true
        · subst c53
          have H1 : (some false) = some r := by rw [if_pos rfl] at H; exact H
          clear H
          have H := H1
          clear H1
          obtain rfl := Option.some.inj H
          go_wp2
          go_ret
          exact ⟨by first | rfl | (simp [errW_none, errW_some] <;> rfl) | (simp [*, errW_none, errW_some] <;> rfl), by repeat (first | (with_reducible first | exact HB.out | apply below_alloc | apply pw_below_drewN | apply below_drew1 | refine below_set ?_ GE197.out | refine below_set ?_ GE198.out | refine below_set ?_ GE199.out) | exact HB.out)⟩
        · replace c53 := Bool.eq_false_iff.mpr c53
          subst c53
          have H1 : (if t201 ≤ 0 then (if t202 ≤ 0 then (if t203 > 0 then (some false) else (if t201 < 0 then (if t203 ≥ 0 then (some false) else (if t202 < 0 then (if a0_0 ≥ a1_0 then (some true) else (some (t201 == (-1)))) else (if a0_0 ≥ a1_0 then (some true) else (some (t201 == (-1)))))) else (if t202 < 0 then (if t203 ≥ 0 then (some false) else (if a0_0 ≥ a1_0 then (some true) else (some (t201 == (-1))))) else (if a0_0 ≥ a1_0 then (some true) else (some (t201 == (-1))))))) else (if t201 < 0 then (if t202 < 0 then (if t203 ≥ 0 then (some false) else (if a0_0 ≥ a1_0 then (some true) else (some (t201 == (-1))))) else (if a0_0 ≥ a1_0 then (some true) else (some (t201 == (-1))))) else (if t202 < 0 then (if t203 ≥ 0 then (some false) else (if a0_0 ≥ a1_0 then (some true) else (some (t201 == (-1))))) else (if a0_0 ≥ a1_0 then (some true) else (some (t201 == (-1))))))) else (if t201 < 0 then (if t202 ≤ 0 then (if t203 ≥ 0 then (some false) else (if a0_0 ≥ a1_0 then (some true) else (some (t201 == (-1))))) else (if a0_0 ≥ a1_0 then (some true) else (some (t201 == (-1))))) else (if a0_0 ≥ a1_0 then (some true) else (some (t201 == (-1)))))) = some r := by rw [if_neg (show ¬ (false = true) by decide)] at H; exact H
          clear H
          have H := H1
          clear H1
          by_cases c54 : t201 ≤ 0
          · rw [if_pos c54] at H
            have c54b0 : decide (t201 ≤ 0) = true := decide_eq_true c54
            clear c54
            by_cases c55 : t202 ≤ 0
            · rw [if_pos c55] at H
              have c55b0 : decide (t202 ≤ 0) = true := decide_eq_true c55
              clear c55
              by_cases c56 : t203 > 0
              · rw [if_pos c56] at H
                have c56b0 : decide (0 < t203) = true := decide_eq_true c56
                clear c56
                obtain rfl := Option.some.inj H
                go_wp2
                go_ret
                exact ⟨by first | rfl | (simp [errW_none, errW_some] <;> rfl) | (simp [*, errW_none, errW_some] <;> rfl), by repeat (first | (with_reducible first | exact HB.out | apply below_alloc | apply pw_below_drewN | apply below_drew1 | refine below_set ?_ GE197.out | refine below_set ?_ GE198.out | refine below_set ?_ GE199.out) | exact HB.out)⟩
              · rw [if_neg c56] at H
                have c56b0 : decide (0 < t203) = false := decide_eq_false c56
                clear c56
                by_cases c57 : t201 < 0
                · rw [if_pos c57] at H
                  have c57b0 : decide (t201 < 0) = true := decide_eq_true c57
                  clear c57
                  by_cases c58 : t203 ≥ 0
                  · rw [if_pos c58] at H
                    have c58b0 : decide (0 ≤ t203) = true := decide_eq_true c58
                    clear c58
                    obtain rfl := Option.some.inj H
                    go_wp2
                    go_ret
                    exact ⟨by first | rfl | (simp [errW_none, errW_some] <;> rfl) | (simp [*, errW_none, errW_some] <;> rfl), by repeat (first | (with_reducible first | exact HB.out | apply below_alloc | apply pw_below_drewN | apply below_drew1 | refine below_set ?_ GE197.out | refine below_set ?_ GE198.out | refine below_set ?_ GE199.out) | exact HB.out)⟩
                  · rw [if_neg c58] at H
                    have c58b0 : decide (0 ≤ t203) = false := decide_eq_false c58
                    clear c58
                    by_cases c59 : t202 < 0
                    · rw [if_pos c59] at H
                      have c59b0 : decide (t202 < 0) = true := decide_eq_true c59
                      clear c59
                      by_cases c60 : a0_0 ≥ a1_0
                      · rw [if_pos c60] at H
                        have c60b0 : decide (a1_0 ≤ a0_0) = true := decide_eq_true c60
                        clear c60
                        obtain rfl := Option.some.inj H
                        have hnb61 := NB197_198.out
                        have hnc61 := NB198_197.out
                        have hnb62 := NB197_199.out
                        have hnc62 := NB199_197.out
                        have hcz63_0 : wc.cell? ⟨gb197, 0, none⟩ = some (.int .i64 a0_0) := (blk_cell BK197.out 0).trans rfl
                        have hcz63_1 : wc.cell? ⟨gb197, 1, none⟩ = some (.int .u64 a0_1) := (blk_cell BK197.out 1).trans rfl
                        have hcz63_2 : wc.cell? ⟨gb197, 2, none⟩ = some (.string a0_2) := (blk_cell BK197.out 2).trans rfl
                        have hfz63_0 := blk_frozen BK197.out 0
                        have hfz63_1 := blk_frozen BK197.out 1
                        have hfz63_2 := blk_frozen BK197.out 2
                        have hnb64 := NB198_199.out
                        have hnc64 := NB199_198.out
                        have hcz65_0 : wc.cell? ⟨gb198, 0, none⟩ = some (.int .i64 a1_0) := (blk_cell BK198.out 0).trans rfl
                        have hcz65_1 : wc.cell? ⟨gb198, 1, none⟩ = some (.int .u64 a1_1) := (blk_cell BK198.out 1).trans rfl
                        have hcz65_2 : wc.cell? ⟨gb198, 2, none⟩ = some (.string a1_2) := (blk_cell BK198.out 2).trans rfl
                        have hfz65_0 := blk_frozen BK198.out 0
                        have hfz65_1 := blk_frozen BK198.out 1
                        have hfz65_2 := blk_frozen BK198.out 2
                        go_wp2
                        go_ret
                        exact ⟨by first | rfl | (simp [errW_none, errW_some] <;> rfl) | (simp [*, errW_none, errW_some] <;> rfl), by repeat (first | (with_reducible first | exact HB.out | apply below_alloc | apply pw_below_drewN | apply below_drew1 | refine below_set ?_ GE197.out | refine below_set ?_ GE198.out | refine below_set ?_ GE199.out) | exact HB.out)⟩
                      · rw [if_neg c60] at H
                        have c60b0 : decide (a1_0 ≤ a0_0) = false := decide_eq_false c60
                        clear c60
                        obtain rfl := Option.some.inj H
                        have hnb66 := NB197_198.out
                        have hnc66 := NB198_197.out
                        have hnb67 := NB197_199.out
                        have hnc67 := NB199_197.out
                        have hcz68_0 : wc.cell? ⟨gb197, 0, none⟩ = some (.int .i64 a0_0) := (blk_cell BK197.out 0).trans rfl
                        have hcz68_1 : wc.cell? ⟨gb197, 1, none⟩ = some (.int .u64 a0_1) := (blk_cell BK197.out 1).trans rfl
                        have hcz68_2 : wc.cell? ⟨gb197, 2, none⟩ = some (.string a0_2) := (blk_cell BK197.out 2).trans rfl
                        have hfz68_0 := blk_frozen BK197.out 0
                        have hfz68_1 := blk_frozen BK197.out 1
                        have hfz68_2 := blk_frozen BK197.out 2
                        have hnb69 := NB198_199.out
                        have hnc69 := NB199_198.out
                        have hcz70_0 : wc.cell? ⟨gb198, 0, none⟩ = some (.int .i64 a1_0) := (blk_cell BK198.out 0).trans rfl
                        have hcz70_1 : wc.cell? ⟨gb198, 1, none⟩ = some (.int .u64 a1_1) := (blk_cell BK198.out 1).trans rfl
                        have hcz70_2 : wc.cell? ⟨gb198, 2, none⟩ = some (.string a1_2) := (blk_cell BK198.out 2).trans rfl
                        have hfz70_0 := blk_frozen BK198.out 0
                        have hfz70_1 := blk_frozen BK198.out 1
                        have hfz70_2 := blk_frozen BK198.out 2
                        go_wp2
                        go_ret
                        exact ⟨by first | rfl | (simp [errW_none, errW_some] <;> rfl) | (simp [*, errW_none, errW_some] <;> rfl), by repeat (first | (with_reducible first | exact HB.out | apply below_alloc | apply pw_below_drewN | apply below_drew1 | refine below_set ?_ GE197.out | refine below_set ?_ GE198.out | refine below_set ?_ GE199.out) | exact HB.out)⟩
                    · rw [if_neg c59] at H
                      have c59b0 : decide (t202 < 0) = false := decide_eq_false c59
                      clear c59
                      by_cases c71 : a0_0 ≥ a1_0
                      · rw [if_pos c71] at H
                        have c71b0 : decide (a1_0 ≤ a0_0) = true := decide_eq_true c71
                        clear c71
                        obtain rfl := Option.some.inj H
                        have hnb72 := NB197_198.out
                        have hnc72 := NB198_197.out
                        have hnb73 := NB197_199.out
                        have hnc73 := NB199_197.out
                        have hcz74_0 : wc.cell? ⟨gb197, 0, none⟩ = some (.int .i64 a0_0) := (blk_cell BK197.out 0).trans rfl
                        have hcz74_1 : wc.cell? ⟨gb197, 1, none⟩ = some (.int .u64 a0_1) := (blk_cell BK197.out 1).trans rfl
                        have hcz74_2 : wc.cell? ⟨gb197, 2, none⟩ = some (.string a0_2) := (blk_cell BK197.out 2).trans rfl
                        have hfz74_0 := blk_frozen BK197.out 0
                        have hfz74_1 := blk_frozen BK197.out 1
                        have hfz74_2 := blk_frozen BK197.out 2
                        have hnb75 := NB198_199.out
                        have hnc75 := NB199_198.out
                        have hcz76_0 : wc.cell? ⟨gb198, 0, none⟩ = some (.int .i64 a1_0) := (blk_cell BK198.out 0).trans rfl
                        have hcz76_1 : wc.cell? ⟨gb198, 1, none⟩ = some (.int .u64 a1_1) := (blk_cell BK198.out 1).trans rfl
                        have hcz76_2 : wc.cell? ⟨gb198, 2, none⟩ = some (.string a1_2) := (blk_cell BK198.out 2).trans rfl
                        have hfz76_0 := blk_frozen BK198.out 0
                        have hfz76_1 := blk_frozen BK198.out 1
                        have hfz76_2 := blk_frozen BK198.out 2
                        go_wp2
                        go_ret
                        exact ⟨by first | rfl | (simp [errW_none, errW_some] <;> rfl) | (simp [*, errW_none, errW_some] <;> rfl), by repeat (first | (with_reducible first | exact HB.out | apply below_alloc | apply pw_below_drewN | apply below_drew1 | refine below_set ?_ GE197.out | refine below_set ?_ GE198.out | refine below_set ?_ GE199.out) | exact HB.out)⟩
                      · rw [if_neg c71] at H
                        have c71b0 : decide (a1_0 ≤ a0_0) = false := decide_eq_false c71
                        clear c71
                        obtain rfl := Option.some.inj H
                        have hnb77 := NB197_198.out
                        have hnc77 := NB198_197.out
                        have hnb78 := NB197_199.out
                        have hnc78 := NB199_197.out
                        have hcz79_0 : wc.cell? ⟨gb197, 0, none⟩ = some (.int .i64 a0_0) := (blk_cell BK197.out 0).trans rfl
                        have hcz79_1 : wc.cell? ⟨gb197, 1, none⟩ = some (.int .u64 a0_1) := (blk_cell BK197.out 1).trans rfl
                        have hcz79_2 : wc.cell? ⟨gb197, 2, none⟩ = some (.string a0_2) := (blk_cell BK197.out 2).trans rfl
                        have hfz79_0 := blk_frozen BK197.out 0
                        have hfz79_1 := blk_frozen BK197.out 1
                        have hfz79_2 := blk_frozen BK197.out 2
                        have hnb80 := NB198_199.out
                        have hnc80 := NB199_198.out
                        have hcz81_0 : wc.cell? ⟨gb198, 0, none⟩ = some (.int .i64 a1_0) := (blk_cell BK198.out 0).trans rfl
                        have hcz81_1 : wc.cell? ⟨gb198, 1, none⟩ = some (.int .u64 a1_1) := (blk_cell BK198.out 1).trans rfl
                        have hcz81_2 : wc.cell? ⟨gb198, 2, none⟩ = some (.string a1_2) := (blk_cell BK198.out 2).trans rfl
                        have hfz81_0 := blk_frozen BK198.out 0
                        have hfz81_1 := blk_frozen BK198.out 1
                        have hfz81_2 := blk_frozen BK198.out 2
                        go_wp2
                        go_ret
                        exact ⟨by first | rfl | (simp [errW_none, errW_some] <;> rfl) | (simp [*, errW_none, errW_some] <;> rfl), by repeat (first | (with_reducible first | exact HB.out | apply below_alloc | apply pw_below_drewN | apply below_drew1 | refine below_set ?_ GE197.out | refine below_set ?_ GE198.out | refine below_set ?_ GE199.out) | exact HB.out)⟩
                · rw [if_neg c57] at H
                  have c57b0 : decide (t201 < 0) = false := decide_eq_false c57
                  clear c57
                  by_cases c82 : t202 < 0
                  · rw [if_pos c82] at H
                    have c82b0 : decide (t202 < 0) = true := decide_eq_true c82
                    clear c82
                    by_cases c83 : t203 ≥ 0
                    · rw [if_pos c83] at H
                      have c83b0 : decide (0 ≤ t203) = true := decide_eq_true c83
                      clear c83
                      obtain rfl := Option.some.inj H
                      go_wp2
                      go_ret
                      exact ⟨by first | rfl | (simp [errW_none, errW_some] <;> rfl) | (simp [*, errW_none, errW_some] <;> rfl), by repeat (first | (with_reducible first | exact HB.out | apply below_alloc | apply pw_below_drewN | apply below_drew1 | refine below_set ?_ GE197.out | refine below_set ?_ GE198.out | refine below_set ?_ GE199.out) | exact HB.out)⟩
                    · rw [if_neg c83] at H
                      have c83b0 : decide (0 ≤ t203) = false := decide_eq_false c83
                      clear c83
                      by_cases c84 : a0_0 ≥ a1_0
                      · rw [if_pos c84] at H
                        have c84b0 : decide (a1_0 ≤ a0_0) = true := decide_eq_true c84
                        clear c84
                        obtain rfl := Option.some.inj H
                        have hnb85 := NB197_198.out
                        have hnc85 := NB198_197.out
                        have hnb86 := NB197_199.out
                        have hnc86 := NB199_197.out
                        have hcz87_0 : wc.cell? ⟨gb197, 0, none⟩ = some (.int .i64 a0_0) := (blk_cell BK197.out 0).trans rfl
                        have hcz87_1 : wc.cell? ⟨gb197, 1, none⟩ = some (.int .u64 a0_1) := (blk_cell BK197.out 1).trans rfl
                        have hcz87_2 : wc.cell? ⟨gb197, 2, none⟩ = some (.string a0_2) := (blk_cell BK197.out 2).trans rfl
                        have hfz87_0 := blk_frozen BK197.out 0
                        have hfz87_1 := blk_frozen BK197.out 1
                        have hfz87_2 := blk_frozen BK197.out 2
                        have hnb88 := NB198_199.out
                        have hnc88 := NB199_198.out
                        have hcz89_0 : wc.cell? ⟨gb198, 0, none⟩ = some (.int .i64 a1_0) := (blk_cell BK198.out 0).trans rfl
                        have hcz89_1 : wc.cell? ⟨gb198, 1, none⟩ = some (.int .u64 a1_1) := (blk_cell BK198.out 1).trans rfl
                        have hcz89_2 : wc.cell? ⟨gb198, 2, none⟩ = some (.string a1_2) := (blk_cell BK198.out 2).trans rfl
                        have hfz89_0 := blk_frozen BK198.out 0
                        have hfz89_1 := blk_frozen BK198.out 1
                        have hfz89_2 := blk_frozen BK198.out 2
                        go_wp2
                        go_ret
                        exact ⟨by first | rfl | (simp [errW_none, errW_some] <;> rfl) | (simp [*, errW_none, errW_some] <;> rfl), by repeat (first | (with_reducible first | exact HB.out | apply below_alloc | apply pw_below_drewN | apply below_drew1 | refine below_set ?_ GE197.out | refine below_set ?_ GE198.out | refine below_set ?_ GE199.out) | exact HB.out)⟩
                      · rw [if_neg c84] at H
                        have c84b0 : decide (a1_0 ≤ a0_0) = false := decide_eq_false c84
                        clear c84
                        obtain rfl := Option.some.inj H
                        have hnb90 := NB197_198.out
                        have hnc90 := NB198_197.out
                        have hnb91 := NB197_199.out
                        have hnc91 := NB199_197.out
                        have hcz92_0 : wc.cell? ⟨gb197, 0, none⟩ = some (.int .i64 a0_0) := (blk_cell BK197.out 0).trans rfl
                        have hcz92_1 : wc.cell? ⟨gb197, 1, none⟩ = some (.int .u64 a0_1) := (blk_cell BK197.out 1).trans rfl
                        have hcz92_2 : wc.cell? ⟨gb197, 2, none⟩ = some (.string a0_2) := (blk_cell BK197.out 2).trans rfl
                        have hfz92_0 := blk_frozen BK197.out 0
                        have hfz92_1 := blk_frozen BK197.out 1
                        have hfz92_2 := blk_frozen BK197.out 2
                        have hnb93 := NB198_199.out
                        have hnc93 := NB199_198.out
                        have hcz94_0 : wc.cell? ⟨gb198, 0, none⟩ = some (.int .i64 a1_0) := (blk_cell BK198.out 0).trans rfl
                        have hcz94_1 : wc.cell? ⟨gb198, 1, none⟩ = some (.int .u64 a1_1) := (blk_cell BK198.out 1).trans rfl
                        have hcz94_2 : wc.cell? ⟨gb198, 2, none⟩ = some (.string a1_2) := (blk_cell BK198.out 2).trans rfl
                        have hfz94_0 := blk_frozen BK198.out 0
                        have hfz94_1 := blk_frozen BK198.out 1
                        have hfz94_2 := blk_frozen BK198.out 2
                        go_wp2
                        go_ret
                        exact ⟨by first | rfl | (simp [errW_none, errW_some] <;> rfl) | (simp [*, errW_none, errW_some] <;> rfl), by repeat (first | (with_reducible first | exact HB.out | apply below_alloc | apply pw_below_drewN | apply below_drew1 | refine below_set ?_ GE197.out | refine below_set ?_ GE198.out | refine below_set ?_ GE199.out) | exact HB.out)⟩
                  · rw [if_neg c82] at H
                    have c82b0 : decide (t202 < 0) = false := decide_eq_false c82
                    clear c82
                    by_cases c95 : a0_0 ≥ a1_0
                    · rw [if_pos c95] at H
                      have c95b0 : decide (a1_0 ≤ a0_0) = true := decide_eq_true c95
                      clear c95
                      obtain rfl := Option.some.inj H
                      have hnb96 := NB197_198.out
                      have hnc96 := NB198_197.out
                      have hnb97 := NB197_199.out
                      have hnc97 := NB199_197.out
                      have hcz98_0 : wc.cell? ⟨gb197, 0, none⟩ = some (.int .i64 a0_0) := (blk_cell BK197.out 0).trans rfl
                      have hcz98_1 : wc.cell? ⟨gb197, 1, none⟩ = some (.int .u64 a0_1) := (blk_cell BK197.out 1).trans rfl
                      have hcz98_2 : wc.cell? ⟨gb197, 2, none⟩ = some (.string a0_2) := (blk_cell BK197.out 2).trans rfl
                      have hfz98_0 := blk_frozen BK197.out 0
                      have hfz98_1 := blk_frozen BK197.out 1
                      have hfz98_2 := blk_frozen BK197.out 2
                      have hnb99 := NB198_199.out
                      have hnc99 := NB199_198.out
                      have hcz100_0 : wc.cell? ⟨gb198, 0, none⟩ = some (.int .i64 a1_0) := (blk_cell BK198.out 0).trans rfl
                      have hcz100_1 : wc.cell? ⟨gb198, 1, none⟩ = some (.int .u64 a1_1) := (blk_cell BK198.out 1).trans rfl
                      have hcz100_2 : wc.cell? ⟨gb198, 2, none⟩ = some (.string a1_2) := (blk_cell BK198.out 2).trans rfl
                      have hfz100_0 := blk_frozen BK198.out 0
                      have hfz100_1 := blk_frozen BK198.out 1
                      have hfz100_2 := blk_frozen BK198.out 2
                      go_wp2
                      go_ret
                      exact ⟨by first | rfl | (simp [errW_none, errW_some] <;> rfl) | (simp [*, errW_none, errW_some] <;> rfl), by repeat (first | (with_reducible first | exact HB.out | apply below_alloc | apply pw_below_drewN | apply below_drew1 | refine below_set ?_ GE197.out | refine below_set ?_ GE198.out | refine below_set ?_ GE199.out) | exact HB.out)⟩
                    · rw [if_neg c95] at H
                      have c95b0 : decide (a1_0 ≤ a0_0) = false := decide_eq_false c95
                      clear c95
                      obtain rfl := Option.some.inj H
                      have hnb101 := NB197_198.out
                      have hnc101 := NB198_197.out
                      have hnb102 := NB197_199.out
                      have hnc102 := NB199_197.out
                      have hcz103_0 : wc.cell? ⟨gb197, 0, none⟩ = some (.int .i64 a0_0) := (blk_cell BK197.out 0).trans rfl
                      have hcz103_1 : wc.cell? ⟨gb197, 1, none⟩ = some (.int .u64 a0_1) := (blk_cell BK197.out 1).trans rfl
                      have hcz103_2 : wc.cell? ⟨gb197, 2, none⟩ = some (.string a0_2) := (blk_cell BK197.out 2).trans rfl
                      have hfz103_0 := blk_frozen BK197.out 0
                      have hfz103_1 := blk_frozen BK197.out 1
                      have hfz103_2 := blk_frozen BK197.out 2
                      have hnb104 := NB198_199.out
                      have hnc104 := NB199_198.out
                      have hcz105_0 : wc.cell? ⟨gb198, 0, none⟩ = some (.int .i64 a1_0) := (blk_cell BK198.out 0).trans rfl
                      have hcz105_1 : wc.cell? ⟨gb198, 1, none⟩ = some (.int .u64 a1_1) := (blk_cell BK198.out 1).trans rfl
                      have hcz105_2 : wc.cell? ⟨gb198, 2, none⟩ = some (.string a1_2) := (blk_cell BK198.out 2).trans rfl
                      have hfz105_0 := blk_frozen BK198.out 0
                      have hfz105_1 := blk_frozen BK198.out 1
                      have hfz105_2 := blk_frozen BK198.out 2
                      go_wp2
                      go_ret
                      exact ⟨by first | rfl | (simp [errW_none, errW_some] <;> rfl) | (simp [*, errW_none, errW_some] <;> rfl), by repeat (first | (with_reducible first | exact HB.out | apply below_alloc | apply pw_below_drewN | apply below_drew1 | refine below_set ?_ GE197.out | refine below_set ?_ GE198.out | refine below_set ?_ GE199.out) | exact HB.out)⟩
            · rw [if_neg c55] at H
              have c55b0 : decide (t202 ≤ 0) = false := decide_eq_false c55
              clear c55
              by_cases c106 : t201 < 0
              · rw [if_pos c106] at H
                have c106b0 : decide (t201 < 0) = true := decide_eq_true c106
                clear c106
                by_cases c107 : t202 < 0
                · rw [if_pos c107] at H
                  have c107b0 : decide (t202 < 0) = true := decide_eq_true c107
                  clear c107
                  by_cases c108 : t203 ≥ 0
                  · rw [if_pos c108] at H
                    have c108b0 : decide (0 ≤ t203) = true := decide_eq_true c108
                    clear c108
                    obtain rfl := Option.some.inj H
                    go_wp2
                    go_ret
                    exact ⟨by first | rfl | (simp [errW_none, errW_some] <;> rfl) | (simp [*, errW_none, errW_some] <;> rfl), by repeat (first | (with_reducible first | exact HB.out | apply below_alloc | apply pw_below_drewN | apply below_drew1 | refine below_set ?_ GE197.out | refine below_set ?_ GE198.out | refine below_set ?_ GE199.out) | exact HB.out)⟩
                  · rw [if_neg c108] at H
                    have c108b0 : decide (0 ≤ t203) = false := decide_eq_false c108
                    clear c108
                    by_cases c109 : a0_0 ≥ a1_0
                    · rw [if_pos c109] at H
                      have c109b0 : decide (a1_0 ≤ a0_0) = true := decide_eq_true c109
                      clear c109
                      obtain rfl := Option.some.inj H
                      have hnb110 := NB197_198.out
                      have hnc110 := NB198_197.out
                      have hnb111 := NB197_199.out
                      have hnc111 := NB199_197.out
                      have hcz112_0 : wc.cell? ⟨gb197, 0, none⟩ = some (.int .i64 a0_0) := (blk_cell BK197.out 0).trans rfl
                      have hcz112_1 : wc.cell? ⟨gb197, 1, none⟩ = some (.int .u64 a0_1) := (blk_cell BK197.out 1).trans rfl
                      have hcz112_2 : wc.cell? ⟨gb197, 2, none⟩ = some (.string a0_2) := (blk_cell BK197.out 2).trans rfl
                      have hfz112_0 := blk_frozen BK197.out 0
                      have hfz112_1 := blk_frozen BK197.out 1
                      have hfz112_2 := blk_frozen BK197.out 2
                      have hnb113 := NB198_199.out
                      have hnc113 := NB199_198.out
                      have hcz114_0 : wc.cell? ⟨gb198, 0, none⟩ = some (.int .i64 a1_0) := (blk_cell BK198.out 0).trans rfl
                      have hcz114_1 : wc.cell? ⟨gb198, 1, none⟩ = some (.int .u64 a1_1) := (blk_cell BK198.out 1).trans rfl
                      have hcz114_2 : wc.cell? ⟨gb198, 2, none⟩ = some (.string a1_2) := (blk_cell BK198.out 2).trans rfl
                      have hfz114_0 := blk_frozen BK198.out 0
                      have hfz114_1 := blk_frozen BK198.out 1
                      have hfz114_2 := blk_frozen BK198.out 2
                      go_wp2
                      go_ret
                      exact ⟨by first | rfl | (simp [errW_none, errW_some] <;> rfl) | (simp [*, errW_none, errW_some] <;> rfl), by repeat (first | (with_reducible first | exact HB.out | apply below_alloc | apply pw_below_drewN | apply below_drew1 | refine below_set ?_ GE197.out | refine below_set ?_ GE198.out | refine below_set ?_ GE199.out) | exact HB.out)⟩
                    · rw [if_neg c109] at H
                      have c109b0 : decide (a1_0 ≤ a0_0) = false := decide_eq_false c109
                      clear c109
                      obtain rfl := Option.some.inj H
                      have hnb115 := NB197_198.out
                      have hnc115 := NB198_197.out
                      have hnb116 := NB197_199.out
                      have hnc116 := NB199_197.out
                      have hcz117_0 : wc.cell? ⟨gb197, 0, none⟩ = some (.int .i64 a0_0) := (blk_cell BK197.out 0).trans rfl
                      have hcz117_1 : wc.cell? ⟨gb197, 1, none⟩ = some (.int .u64 a0_1) := (blk_cell BK197.out 1).trans rfl
                      have hcz117_2 : wc.cell? ⟨gb197, 2, none⟩ = some (.string a0_2) := (blk_cell BK197.out 2).trans rfl
                      have hfz117_0 := blk_frozen BK197.out 0
                      have hfz117_1 := blk_frozen BK197.out 1
                      have hfz117_2 := blk_frozen BK197.out 2
                      have hnb118 := NB198_199.out
                      have hnc118 := NB199_198.out
                      have hcz119_0 : wc.cell? ⟨gb198, 0, none⟩ = some (.int .i64 a1_0) := (blk_cell BK198.out 0).trans rfl
                      have hcz119_1 : wc.cell? ⟨gb198, 1, none⟩ = some (.int .u64 a1_1) := (blk_cell BK198.out 1).trans rfl
                      have hcz119_2 : wc.cell? ⟨gb198, 2, none⟩ = some (.string a1_2) := (blk_cell BK198.out 2).trans rfl
                      have hfz119_0 := blk_frozen BK198.out 0
                      have hfz119_1 := blk_frozen BK198.out 1
                      have hfz119_2 := blk_frozen BK198.out 2
                      go_wp2
                      go_ret
                      exact ⟨by first | rfl | (simp [errW_none, errW_some] <;> rfl) | (simp [*, errW_none, errW_some] <;> rfl), by repeat (first | (with_reducible first | exact HB.out | apply below_alloc | apply pw_below_drewN | apply below_drew1 | refine below_set ?_ GE197.out | refine below_set ?_ GE198.out | refine below_set ?_ GE199.out) | exact HB.out)⟩
                · rw [if_neg c107] at H
                  have c107b0 : decide (t202 < 0) = false := decide_eq_false c107
                  clear c107
                  by_cases c120 : a0_0 ≥ a1_0
                  · rw [if_pos c120] at H
                    have c120b0 : decide (a1_0 ≤ a0_0) = true := decide_eq_true c120
                    clear c120
                    obtain rfl := Option.some.inj H
                    have hnb121 := NB197_198.out
                    have hnc121 := NB198_197.out
                    have hnb122 := NB197_199.out
                    have hnc122 := NB199_197.out
                    have hcz123_0 : wc.cell? ⟨gb197, 0, none⟩ = some (.int .i64 a0_0) := (blk_cell BK197.out 0).trans rfl
                    have hcz123_1 : wc.cell? ⟨gb197, 1, none⟩ = some (.int .u64 a0_1) := (blk_cell BK197.out 1).trans rfl
                    have hcz123_2 : wc.cell? ⟨gb197, 2, none⟩ = some (.string a0_2) := (blk_cell BK197.out 2).trans rfl
                    have hfz123_0 := blk_frozen BK197.out 0
                    have hfz123_1 := blk_frozen BK197.out 1
                    have hfz123_2 := blk_frozen BK197.out 2
                    have hnb124 := NB198_199.out
                    have hnc124 := NB199_198.out
                    have hcz125_0 : wc.cell? ⟨gb198, 0, none⟩ = some (.int .i64 a1_0) := (blk_cell BK198.out 0).trans rfl
                    have hcz125_1 : wc.cell? ⟨gb198, 1, none⟩ = some (.int .u64 a1_1) := (blk_cell BK198.out 1).trans rfl
                    have hcz125_2 : wc.cell? ⟨gb198, 2, none⟩ = some (.string a1_2) := (blk_cell BK198.out 2).trans rfl
                    have hfz125_0 := blk_frozen BK198.out 0
                    have hfz125_1 := blk_frozen BK198.out 1
                    have hfz125_2 := blk_frozen BK198.out 2
                    go_wp2
                    go_ret
                    exact ⟨by first | rfl | (simp [errW_none, errW_some] <;> rfl) | (simp [*, errW_none, errW_some] <;> rfl), by repeat (first | (with_reducible first | exact HB.out | apply below_alloc | apply pw_below_drewN | apply below_drew1 | refine below_set ?_ GE197.out | refine below_set ?_ GE198.out | refine below_set ?_ GE199.out) | exact HB.out)⟩
                  · rw [if_neg c120] at H
                    have c120b0 : decide (a1_0 ≤ a0_0) = false := decide_eq_false c120
                    clear c120
                    obtain rfl := Option.some.inj H
                    have hnb126 := NB197_198.out
                    have hnc126 := NB198_197.out
                    have hnb127 := NB197_199.out
                    have hnc127 := NB199_197.out
                    have hcz128_0 : wc.cell? ⟨gb197, 0, none⟩ = some (.int .i64 a0_0) := (blk_cell BK197.out 0).trans rfl
                    have hcz128_1 : wc.cell? ⟨gb197, 1, none⟩ = some (.int .u64 a0_1) := (blk_cell BK197.out 1).trans rfl
                    have hcz128_2 : wc.cell? ⟨gb197, 2, none⟩ = some (.string a0_2) := (blk_cell BK197.out 2).trans rfl
                    have hfz128_0 := blk_frozen BK197.out 0
                    have hfz128_1 := blk_frozen BK197.out 1
                    have hfz128_2 := blk_frozen BK197.out 2
                    have hnb129 := NB198_199.out
                    have hnc129 := NB199_198.out
                    have hcz130_0 : wc.cell? ⟨gb198, 0, none⟩ = some (.int .i64 a1_0) := (blk_cell BK198.out 0).trans rfl
                    have hcz130_1 : wc.cell? ⟨gb198, 1, none⟩ = some (.int .u64 a1_1) := (blk_cell BK198.out 1).trans rfl
                    have hcz130_2 : wc.cell? ⟨gb198, 2, none⟩ = some (.string a1_2) := (blk_cell BK198.out 2).trans rfl
                    have hfz130_0 := blk_frozen BK198.out 0
                    have hfz130_1 := blk_frozen BK198.out 1
                    have hfz130_2 := blk_frozen BK198.out 2
                    go_wp2
                    go_ret
                    exact ⟨by first | rfl | (simp [errW_none, errW_some] <;> rfl) | (simp [*, errW_none, errW_some] <;> rfl), by repeat (first | (with_reducible first | exact HB.out | apply below_alloc | apply pw_below_drewN | apply below_drew1 | refine below_set ?_ GE197.out | refine below_set ?_ GE198.out | refine below_set ?_ GE199.out) | exact HB.out)⟩
              · rw [if_neg c106] at H
                have c106b0 : decide (t201 < 0) = false := decide_eq_false c106
                clear c106
                by_cases c131 : t202 < 0
                · rw [if_pos c131] at H
                  have c131b0 : decide (t202 < 0) = true := decide_eq_true c131
                  clear c131
                  by_cases c132 : t203 ≥ 0
                  · rw [if_pos c132] at H
                    have c132b0 : decide (0 ≤ t203) = true := decide_eq_true c132
                    clear c132
                    obtain rfl := Option.some.inj H
                    go_wp2
                    go_ret
                    exact ⟨by first | rfl | (simp [errW_none, errW_some] <;> rfl) | (simp [*, errW_none, errW_some] <;> rfl), by repeat (first | (with_reducible first | exact HB.out | apply below_alloc | apply pw_below_drewN | apply below_drew1 | refine below_set ?_ GE197.out | refine below_set ?_ GE198.out | refine below_set ?_ GE199.out) | exact HB.out)⟩
                  · rw [if_neg c132] at H
                    have c132b0 : decide (0 ≤ t203) = false := decide_eq_false c132
                    clear c132
                    by_cases c133 : a0_0 ≥ a1_0
                    · rw [if_pos c133] at H
                      have c133b0 : decide (a1_0 ≤ a0_0) = true := decide_eq_true c133
                      clear c133
                      obtain rfl := Option.some.inj H
                      have hnb134 := NB197_198.out
                      have hnc134 := NB198_197.out
                      have hnb135 := NB197_199.out
                      have hnc135 := NB199_197.out
                      have hcz136_0 : wc.cell? ⟨gb197, 0, none⟩ = some (.int .i64 a0_0) := (blk_cell BK197.out 0).trans rfl
                      have hcz136_1 : wc.cell? ⟨gb197, 1, none⟩ = some (.int .u64 a0_1) := (blk_cell BK197.out 1).trans rfl
                      have hcz136_2 : wc.cell? ⟨gb197, 2, none⟩ = some (.string a0_2) := (blk_cell BK197.out 2).trans rfl
                      have hfz136_0 := blk_frozen BK197.out 0
                      have hfz136_1 := blk_frozen BK197.out 1
                      have hfz136_2 := blk_frozen BK197.out 2
                      have hnb137 := NB198_199.out
                      have hnc137 := NB199_198.out
                      have hcz138_0 : wc.cell? ⟨gb198, 0, none⟩ = some (.int .i64 a1_0) := (blk_cell BK198.out 0).trans rfl
                      have hcz138_1 : wc.cell? ⟨gb198, 1, none⟩ = some (.int .u64 a1_1) := (blk_cell BK198.out 1).trans rfl
                      have hcz138_2 : wc.cell? ⟨gb198, 2, none⟩ = some (.string a1_2) := (blk_cell BK198.out 2).trans rfl
                      have hfz138_0 := blk_frozen BK198.out 0
                      have hfz138_1 := blk_frozen BK198.out 1
                      have hfz138_2 := blk_frozen BK198.out 2
                      go_wp2
                      go_ret
                      exact ⟨by first | rfl | (simp [errW_none, errW_some] <;> rfl) | (simp [*, errW_none, errW_some] <;> rfl), by repeat (first | (with_reducible first | exact HB.out | apply below_alloc | apply pw_below_drewN | apply below_drew1 | refine below_set ?_ GE197.out | refine below_set ?_ GE198.out | refine below_set ?_ GE199.out) | exact HB.out)⟩
                    · rw [if_neg c133] at H
                      have c133b0 : decide (a1_0 ≤ a0_0) = false := decide_eq_false c133
                      clear c133
                      obtain rfl := Option.some.inj H
                      have hnb139 := NB197_198.out
                      have hnc139 := NB198_197.out
                      have hnb140 := NB197_199.out
                      have hnc140 := NB199_197.out
                      have hcz141_0 : wc.cell? ⟨gb197, 0, none⟩ = some (.int .i64 a0_0) := (blk_cell BK197.out 0).trans rfl
                      have hcz141_1 : wc.cell? ⟨gb197, 1, none⟩ = some (.int .u64 a0_1) := (blk_cell BK197.out 1).trans rfl
                      have hcz141_2 : wc.cell? ⟨gb197, 2, none⟩ = some (.string a0_2) := (blk_cell BK197.out 2).trans rfl
                      have hfz141_0 := blk_frozen BK197.out 0
                      have hfz141_1 := blk_frozen BK197.out 1
                      have hfz141_2 := blk_frozen BK197.out 2
                      have hnb142 := NB198_199.out
                      have hnc142 := NB199_198.out
                      have hcz143_0 : wc.cell? ⟨gb198, 0, none⟩ = some (.int .i64 a1_0) := (blk_cell BK198.out 0).trans rfl
                      have hcz143_1 : wc.cell? ⟨gb198, 1, none⟩ = some (.int .u64 a1_1) := (blk_cell BK198.out 1).trans rfl
                      have hcz143_2 : wc.cell? ⟨gb198, 2, none⟩ = some (.string a1_2) := (blk_cell BK198.out 2).trans rfl
                      have hfz143_0 := blk_frozen BK198.out 0
                      have hfz143_1 := blk_frozen BK198.out 1
                      have hfz143_2 := blk_frozen BK198.out 2
                      go_wp2
                      go_ret
                      exact ⟨by first | rfl | (simp [errW_none, errW_some] <;> rfl) | (simp [*, errW_none, errW_some] <;> rfl), by repeat (first | (with_reducible first | exact HB.out | apply below_alloc | apply pw_below_drewN | apply below_drew1 | refine below_set ?_ GE197.out | refine below_set ?_ GE198.out | refine below_set ?_ GE199.out) | exact HB.out)⟩
                · rw [if_neg c131] at H
                  have c131b0 : decide (t202 < 0) = false := decide_eq_false c131
                  clear c131
                  by_cases c144 : a0_0 ≥ a1_0
                  · rw [if_pos c144] at H
                    have c144b0 : decide (a1_0 ≤ a0_0) = true := decide_eq_true c144
                    clear c144
                    obtain rfl := Option.some.inj H
                    have hnb145 := NB197_198.out
                    have hnc145 := NB198_197.out
                    have hnb146 := NB197_199.out
                    have hnc146 := NB199_197.out
                    have hcz147_0 : wc.cell? ⟨gb197, 0, none⟩ = some (.int .i64 a0_0) := (blk_cell BK197.out 0).trans rfl
                    have hcz147_1 : wc.cell? ⟨gb197, 1, none⟩ = some (.int .u64 a0_1) := (blk_cell BK197.out 1).trans rfl
                    have hcz147_2 : wc.cell? ⟨gb197, 2, none⟩ = some (.string a0_2) := (blk_cell BK197.out 2).trans rfl
                    have hfz147_0 := blk_frozen BK197.out 0
                    have hfz147_1 := blk_frozen BK197.out 1
                    have hfz147_2 := blk_frozen BK197.out 2
                    have hnb148 := NB198_199.out
                    have hnc148 := NB199_198.out
                    have hcz149_0 : wc.cell? ⟨gb198, 0, none⟩ = some (.int .i64 a1_0) := (blk_cell BK198.out 0).trans rfl
                    have hcz149_1 : wc.cell? ⟨gb198, 1, none⟩ = some (.int .u64 a1_1) := (blk_cell BK198.out 1).trans rfl
                    have hcz149_2 : wc.cell? ⟨gb198, 2, none⟩ = some (.string a1_2) := (blk_cell BK198.out 2).trans rfl
                    have hfz149_0 := blk_frozen BK198.out 0
                    have hfz149_1 := blk_frozen BK198.out 1
                    have hfz149_2 := blk_frozen BK198.out 2
                    go_wp2
                    go_ret
                    exact ⟨by first | rfl | (simp [errW_none, errW_some] <;> rfl) | (simp [*, errW_none, errW_some] <;> rfl), by repeat (first | (with_reducible first | exact HB.out | apply below_alloc | apply pw_below_drewN | apply below_drew1 | refine below_set ?_ GE197.out | refine below_set ?_ GE198.out | refine below_set ?_ GE199.out) | exact HB.out)⟩
                  · rw [if_neg c144] at H
                    have c144b0 : decide (a1_0 ≤ a0_0) = false := decide_eq_false c144
                    clear c144
                    obtain rfl := Option.some.inj H
                    have hnb150 := NB197_198.out
                    have hnc150 := NB198_197.out
                    have hnb151 := NB197_199.out
                    have hnc151 := NB199_197.out
                    have hcz152_0 : wc.cell? ⟨gb197, 0, none⟩ = some (.int .i64 a0_0) := (blk_cell BK197.out 0).trans rfl
                    have hcz152_1 : wc.cell? ⟨gb197, 1, none⟩ = some (.int .u64 a0_1) := (blk_cell BK197.out 1).trans rfl
                    have hcz152_2 : wc.cell? ⟨gb197, 2, none⟩ = some (.string a0_2) := (blk_cell BK197.out 2).trans rfl
                    have hfz152_0 := blk_frozen BK197.out 0
                    have hfz152_1 := blk_frozen BK197.out 1
                    have hfz152_2 := blk_frozen BK197.out 2
                    have hnb153 := NB198_199.out
                    have hnc153 := NB199_198.out
                    have hcz154_0 : wc.cell? ⟨gb198, 0, none⟩ = some (.int .i64 a1_0) := (blk_cell BK198.out 0).trans rfl
                    have hcz154_1 : wc.cell? ⟨gb198, 1, none⟩ = some (.int .u64 a1_1) := (blk_cell BK198.out 1).trans rfl
                    have hcz154_2 : wc.cell? ⟨gb198, 2, none⟩ = some (.string a1_2) := (blk_cell BK198.out 2).trans rfl
                    have hfz154_0 := blk_frozen BK198.out 0
                    have hfz154_1 := blk_frozen BK198.out 1
                    have hfz154_2 := blk_frozen BK198.out 2
                    go_wp2
                    go_ret
                    exact ⟨by first | rfl | (simp [errW_none, errW_some] <;> rfl) | (simp [*, errW_none, errW_some] <;> rfl), by repeat (first | (with_reducible first | exact HB.out | apply below_alloc | apply pw_below_drewN | apply below_drew1 | refine below_set ?_ GE197.out | refine below_set ?_ GE198.out | refine below_set ?_ GE199.out) | exact HB.out)⟩
          · rw [if_neg c54] at H
            have c54b0 : decide (t201 ≤ 0) = false := decide_eq_false c54
            clear c54
            by_cases c155 : t201 < 0
            · rw [if_pos c155] at H
              have c155b0 : decide (t201 < 0) = true := decide_eq_true c155
              clear c155
              by_cases c156 : t202 ≤ 0
              · rw [if_pos c156] at H
                have c156b0 : decide (t202 ≤ 0) = true := decide_eq_true c156
                clear c156
                by_cases c157 : t203 ≥ 0
                · rw [if_pos c157] at H
                  have c157b0 : decide (0 ≤ t203) = true := decide_eq_true c157
                  clear c157
                  obtain rfl := Option.some.inj H
                  go_wp2
                  go_ret
                  exact ⟨by first | rfl | (simp [errW_none, errW_some] <;> rfl) | (simp [*, errW_none, errW_some] <;> rfl), by repeat (first | (with_reducible first | exact HB.out | apply below_alloc | apply pw_below_drewN | apply below_drew1 | refine below_set ?_ GE197.out | refine below_set ?_ GE198.out | refine below_set ?_ GE199.out) | exact HB.out)⟩
                · rw [if_neg c157] at H
                  have c157b0 : decide (0 ≤ t203) = false := decide_eq_false c157
                  clear c157
                  by_cases c158 : a0_0 ≥ a1_0
                  · rw [if_pos c158] at H
                    have c158b0 : decide (a1_0 ≤ a0_0) = true := decide_eq_true c158
                    clear c158
                    obtain rfl := Option.some.inj H
                    have hnb159 := NB197_198.out
                    have hnc159 := NB198_197.out
                    have hnb160 := NB197_199.out
                    have hnc160 := NB199_197.out
                    have hcz161_0 : wc.cell? ⟨gb197, 0, none⟩ = some (.int .i64 a0_0) := (blk_cell BK197.out 0).trans rfl
                    have hcz161_1 : wc.cell? ⟨gb197, 1, none⟩ = some (.int .u64 a0_1) := (blk_cell BK197.out 1).trans rfl
                    have hcz161_2 : wc.cell? ⟨gb197, 2, none⟩ = some (.string a0_2) := (blk_cell BK197.out 2).trans rfl
                    have hfz161_0 := blk_frozen BK197.out 0
                    have hfz161_1 := blk_frozen BK197.out 1
                    have hfz161_2 := blk_frozen BK197.out 2
                    have hnb162 := NB198_199.out
                    have hnc162 := NB199_198.out
                    have hcz163_0 : wc.cell? ⟨gb198, 0, none⟩ = some (.int .i64 a1_0) := (blk_cell BK198.out 0).trans rfl
                    have hcz163_1 : wc.cell? ⟨gb198, 1, none⟩ = some (.int .u64 a1_1) := (blk_cell BK198.out 1).trans rfl
                    have hcz163_2 : wc.cell? ⟨gb198, 2, none⟩ = some (.string a1_2) := (blk_cell BK198.out 2).trans rfl
                    have hfz163_0 := blk_frozen BK198.out 0
                    have hfz163_1 := blk_frozen BK198.out 1
                    have hfz163_2 := blk_frozen BK198.out 2
                    go_wp2
                    go_ret
                    exact ⟨by first | rfl | (simp [errW_none, errW_some] <;> rfl) | (simp [*, errW_none, errW_some] <;> rfl), by repeat (first | (with_reducible first | exact HB.out | apply below_alloc | apply pw_below_drewN | apply below_drew1 | refine below_set ?_ GE197.out | refine below_set ?_ GE198.out | refine below_set ?_ GE199.out) | exact HB.out)⟩
                  · rw [if_neg c158] at H
                    have c158b0 : decide (a1_0 ≤ a0_0) = false := decide_eq_false c158
                    clear c158
                    obtain rfl := Option.some.inj H
                    have hnb164 := NB197_198.out
                    have hnc164 := NB198_197.out
                    have hnb165 := NB197_199.out
                    have hnc165 := NB199_197.out
                    have hcz166_0 : wc.cell? ⟨gb197, 0, none⟩ = some (.int .i64 a0_0) := (blk_cell BK197.out 0).trans rfl
                    have hcz166_1 : wc.cell? ⟨gb197, 1, none⟩ = some (.int .u64 a0_1) := (blk_cell BK197.out 1).trans rfl
                    have hcz166_2 : wc.cell? ⟨gb197, 2, none⟩ = some (.string a0_2) := (blk_cell BK197.out 2).trans rfl
                    have hfz166_0 := blk_frozen BK197.out 0
                    have hfz166_1 := blk_frozen BK197.out 1
                    have hfz166_2 := blk_frozen BK197.out 2
                    have hnb167 := NB198_199.out
                    have hnc167 := NB199_198.out
                    have hcz168_0 : wc.cell? ⟨gb198, 0, none⟩ = some (.int .i64 a1_0) := (blk_cell BK198.out 0).trans rfl
                    have hcz168_1 : wc.cell? ⟨gb198, 1, none⟩ = some (.int .u64 a1_1) := (blk_cell BK198.out 1).trans rfl
                    have hcz168_2 : wc.cell? ⟨gb198, 2, none⟩ = some (.string a1_2) := (blk_cell BK198.out 2).trans rfl
                    have hfz168_0 := blk_frozen BK198.out 0
                    have hfz168_1 := blk_frozen BK198.out 1
                    have hfz168_2 := blk_frozen BK198.out 2
                    go_wp2
                    go_ret
                    exact ⟨by first | rfl | (simp [errW_none, errW_some] <;> rfl) | (simp [*, errW_none, errW_some] <;> rfl), by repeat (first | (with_reducible first | exact HB.out | apply below_alloc | apply pw_below_drewN | apply below_drew1 | refine below_set ?_ GE197.out | refine below_set ?_ GE198.out | refine below_set ?_ GE199.out) | exact HB.out)⟩
              · rw [if_neg c156] at H
                have c156b0 : decide (t202 ≤ 0) = false := decide_eq_false c156
                clear c156
                by_cases c169 : a0_0 ≥ a1_0
                · rw [if_pos c169] at H
                  have c169b0 : decide (a1_0 ≤ a0_0) = true := decide_eq_true c169
                  clear c169
                  obtain rfl := Option.some.inj H
                  have hnb170 := NB197_198.out
                  have hnc170 := NB198_197.out
                  have hnb171 := NB197_199.out
                  have hnc171 := NB199_197.out
                  have hcz172_0 : wc.cell? ⟨gb197, 0, none⟩ = some (.int .i64 a0_0) := (blk_cell BK197.out 0).trans rfl
                  have hcz172_1 : wc.cell? ⟨gb197, 1, none⟩ = some (.int .u64 a0_1) := (blk_cell BK197.out 1).trans rfl
                  have hcz172_2 : wc.cell? ⟨gb197, 2, none⟩ = some (.string a0_2) := (blk_cell BK197.out 2).trans rfl
                  have hfz172_0 := blk_frozen BK197.out 0
                  have hfz172_1 := blk_frozen BK197.out 1
                  have hfz172_2 := blk_frozen BK197.out 2
                  have hnb173 := NB198_199.out
                  have hnc173 := NB199_198.out
                  have hcz174_0 : wc.cell? ⟨gb198, 0, none⟩ = some (.int .i64 a1_0) := (blk_cell BK198.out 0).trans rfl
                  have hcz174_1 : wc.cell? ⟨gb198, 1, none⟩ = some (.int .u64 a1_1) := (blk_cell BK198.out 1).trans rfl
                  have hcz174_2 : wc.cell? ⟨gb198, 2, none⟩ = some (.string a1_2) := (blk_cell BK198.out 2).trans rfl
                  have hfz174_0 := blk_frozen BK198.out 0
                  have hfz174_1 := blk_frozen BK198.out 1
                  have hfz174_2 := blk_frozen BK198.out 2
                  go_wp2
                  go_ret
                  exact ⟨by first | rfl | (simp [errW_none, errW_some] <;> rfl) | (simp [*, errW_none, errW_some] <;> rfl), by repeat (first | (with_reducible first | exact HB.out | apply below_alloc | apply pw_below_drewN | apply below_drew1 | refine below_set ?_ GE197.out | refine below_set ?_ GE198.out | refine below_set ?_ GE199.out) | exact HB.out)⟩
                · rw [if_neg c169] at H
                  have c169b0 : decide (a1_0 ≤ a0_0) = false := decide_eq_false c169
                  clear c169
                  obtain rfl := Option.some.inj H
                  have hnb175 := NB197_198.out
                  have hnc175 := NB198_197.out
                  have hnb176 := NB197_199.out
                  have hnc176 := NB199_197.out
                  have hcz177_0 : wc.cell? ⟨gb197, 0, none⟩ = some (.int .i64 a0_0) := (blk_cell BK197.out 0).trans rfl
                  have hcz177_1 : wc.cell? ⟨gb197, 1, none⟩ = some (.int .u64 a0_1) := (blk_cell BK197.out 1).trans rfl
                  have hcz177_2 : wc.cell? ⟨gb197, 2, none⟩ = some (.string a0_2) := (blk_cell BK197.out 2).trans rfl
                  have hfz177_0 := blk_frozen BK197.out 0
                  have hfz177_1 := blk_frozen BK197.out 1
                  have hfz177_2 := blk_frozen BK197.out 2
                  have hnb178 := NB198_199.out
                  have hnc178 := NB199_198.out
                  have hcz179_0 : wc.cell? ⟨gb198, 0, none⟩ = some (.int .i64 a1_0) := (blk_cell BK198.out 0).trans rfl
                  have hcz179_1 : wc.cell? ⟨gb198, 1, none⟩ = some (.int .u64 a1_1) := (blk_cell BK198.out 1).trans rfl
                  have hcz179_2 : wc.cell? ⟨gb198, 2, none⟩ = some (.string a1_2) := (blk_cell BK198.out 2).trans rfl
                  have hfz179_0 := blk_frozen BK198.out 0
                  have hfz179_1 := blk_frozen BK198.out 1
                  have hfz179_2 := blk_frozen BK198.out 2
                  go_wp2
                  go_ret
                  exact ⟨by first | rfl | (simp [errW_none, errW_some] <;> rfl) | (simp [*, errW_none, errW_some] <;> rfl), by repeat (first | (with_reducible first | exact HB.out | apply below_alloc | apply pw_below_drewN | apply below_drew1 | refine below_set ?_ GE197.out | refine below_set ?_ GE198.out | refine below_set ?_ GE199.out) | exact HB.out)⟩
            · rw [if_neg c155] at H
              have c155b0 : decide (t201 < 0) = false := decide_eq_false c155
              clear c155
              by_cases c180 : a0_0 ≥ a1_0
              · rw [if_pos c180] at H
                have c180b0 : decide (a1_0 ≤ a0_0) = true := decide_eq_true c180
                clear c180
                obtain rfl := Option.some.inj H
                have hnb181 := NB197_198.out
                have hnc181 := NB198_197.out
                have hnb182 := NB197_199.out
                have hnc182 := NB199_197.out
                have hcz183_0 : wc.cell? ⟨gb197, 0, none⟩ = some (.int .i64 a0_0) := (blk_cell BK197.out 0).trans rfl
                have hcz183_1 : wc.cell? ⟨gb197, 1, none⟩ = some (.int .u64 a0_1) := (blk_cell BK197.out 1).trans rfl
                have hcz183_2 : wc.cell? ⟨gb197, 2, none⟩ = some (.string a0_2) := (blk_cell BK197.out 2).trans rfl
                have hfz183_0 := blk_frozen BK197.out 0
                have hfz183_1 := blk_frozen BK197.out 1
                have hfz183_2 := blk_frozen BK197.out 2
                have hnb184 := NB198_199.out
                have hnc184 := NB199_198.out
                have hcz185_0 : wc.cell? ⟨gb198, 0, none⟩ = some (.int .i64 a1_0) := (blk_cell BK198.out 0).trans rfl
                have hcz185_1 : wc.cell? ⟨gb198, 1, none⟩ = some (.int .u64 a1_1) := (blk_cell BK198.out 1).trans rfl
                have hcz185_2 : wc.cell? ⟨gb198, 2, none⟩ = some (.string a1_2) := (blk_cell BK198.out 2).trans rfl
                have hfz185_0 := blk_frozen BK198.out 0
                have hfz185_1 := blk_frozen BK198.out 1
                have hfz185_2 := blk_frozen BK198.out 2
                go_wp2
                go_ret
                exact ⟨by first | rfl | (simp [errW_none, errW_some] <;> rfl) | (simp [*, errW_none, errW_some] <;> rfl), by repeat (first | (with_reducible first | exact HB.out | apply below_alloc | apply pw_below_drewN | apply below_drew1 | refine below_set ?_ GE197.out | refine below_set ?_ GE198.out | refine below_set ?_ GE199.out) | exact HB.out)⟩
              · rw [if_neg c180] at H
                have c180b0 : decide (a1_0 ≤ a0_0) = false := decide_eq_false c180
                clear c180
                obtain rfl := Option.some.inj H
                have hnb186 := NB197_198.out
                have hnc186 := NB198_197.out
                have hnb187 := NB197_199.out
                have hnc187 := NB199_197.out
                have hcz188_0 : wc.cell? ⟨gb197, 0, none⟩ = some (.int .i64 a0_0) := (blk_cell BK197.out 0).trans rfl
                have hcz188_1 : wc.cell? ⟨gb197, 1, none⟩ = some (.int .u64 a0_1) := (blk_cell BK197.out 1).trans rfl
                have hcz188_2 : wc.cell? ⟨gb197, 2, none⟩ = some (.string a0_2) := (blk_cell BK197.out 2).trans rfl
                have hfz188_0 := blk_frozen BK197.out 0
                have hfz188_1 := blk_frozen BK197.out 1
                have hfz188_2 := blk_frozen BK197.out 2
                have hnb189 := NB198_199.out
                have hnc189 := NB199_198.out
                have hcz190_0 : wc.cell? ⟨gb198, 0, none⟩ = some (.int .i64 a1_0) := (blk_cell BK198.out 0).trans rfl
                have hcz190_1 : wc.cell? ⟨gb198, 1, none⟩ = some (.int .u64 a1_1) := (blk_cell BK198.out 1).trans rfl
                have hcz190_2 : wc.cell? ⟨gb198, 2, none⟩ = some (.string a1_2) := (blk_cell BK198.out 2).trans rfl
                have hfz190_0 := blk_frozen BK198.out 0
                have hfz190_1 := blk_frozen BK198.out 1
                have hfz190_2 := blk_frozen BK198.out 2
                go_wp2
                go_ret
                exact ⟨by first | rfl | (simp [errW_none, errW_some] <;> rfl) | (simp [*, errW_none, errW_some] <;> rfl), by repeat (first | (with_reducible first | exact HB.out | apply below_alloc | apply pw_below_drewN | apply below_drew1 | refine below_set ?_ GE197.out | refine below_set ?_ GE198.out | refine below_set ?_ GE199.out) | exact HB.out)⟩
  · replace c5 := Bool.eq_false_iff.mpr c5
    subst c5
    have H1 : (some false) = some r := by rw [if_neg (show ¬ (false = true) by decide)] at H; exact H
    clear H
    have H := H1
    clear H1
    obtain rfl := Option.some.inj H
    go_enter Try.func4, Try.ntmps4
    go_wp2_with (first | ((with_reducible refine gate_dst (N := 3) rfl ?_); refine box_event ?hg (N := 3) ?hd (cs := #[.int .i64 a0_0, .int .u64 a0_1, .string a0_2]) (t := 27) ?hr ?_; (case hd => rfl); (case hg => rfl); (case hr => first | (go_simp; done) | (go_simp; rfl)); intro gb197 hg w191 hbox hb; have n0_ := Aside0.mk (below_step (by repeat (first | (with_reducible first | exact HB.out | apply below_alloc | apply pw_below_drewN | apply below_drew1) | exact HB.out)) hb); have n1_ := Aside0.mk (hbox); have n2_ := Aside0.mk ((by rw [hg]; exact (below_size (by repeat (first | (with_reducible first | exact HB.out | apply below_alloc | apply pw_below_drewN | apply below_drew1) | exact HB.out))) : w.heap.size ≤ gb197)); have n3_ := Aside0.mk ((by rw [hg]; exact (below_size (by repeat (first | (with_reducible first | exact HB.out | apply below_alloc | apply pw_below_drewN | apply below_drew1) | exact HB.out))) : w.heap.size ≤ gb197)); clear HB; have HB := n0_; have BK197 := n1_; have GW197 := n2_; have GE197 := n3_; clear n0_ n1_ n2_ n3_; clear hb hbox hg) | ((with_reducible refine gate_dst (N := 4) rfl ?_); refine box_event ?hg (N := 4) ?hd (cs := #[.int .i64 a1_0, .int .u64 a1_1, .string a1_2]) (t := 27) ?hr ?_; (case hd => rfl); (case hg => rfl); (case hr => first | (go_simp; done) | (go_simp; rfl)); intro gb198 hg w192 hbox hb; have n0_ := Aside0.mk (blk_below (g := gb197) (o := .cells #[.int .i64 a0_0, .int .u64 a0_1, .string a0_2] 27 (0, 0)) (by (with_reducible repeat (first | refine blk_drewN ?_ _ | refine blk_drew ?_ | refine blk_alloc ?_ _)); exact BK197.out) hb); have n1_ := Aside0.mk (below_step (by repeat (first | (with_reducible first | exact HB.out | apply below_alloc | apply pw_below_drewN | apply below_drew1 | refine below_set ?_ GE197.out) | exact HB.out)) hb); have n2_ := Aside0.mk (hbox); have n3_ := Aside0.mk ((by rw [hg]; exact (below_size (by repeat (first | (with_reducible first | exact HB.out | apply below_alloc | apply pw_below_drewN | apply below_drew1 | refine below_set ?_ GE197.out) | exact HB.out))) : w.heap.size ≤ gb198)); have n4_ := Aside0.mk ((by rw [hg]; exact (below_size (by repeat (first | (with_reducible first | exact HB.out | apply below_alloc | apply pw_below_drewN | apply below_drew1 | refine below_set ?_ GE197.out) | exact HB.out))) : w.heap.size ≤ gb198)); have n5_ := Aside0.mk ((by rw [hg]; exact Nat.ne_of_lt (blk_lt (g := gb197) (o := .cells #[.int .i64 a0_0, .int .u64 a0_1, .string a0_2] 27 (0, 0)) (by (with_reducible repeat (first | refine blk_drewN ?_ _ | refine blk_drew ?_ | refine blk_alloc ?_ _)); exact BK197.out)) : gb197 ≠ gb198)); have n6_ := Aside0.mk ((by rw [hg]; exact Nat.ne_of_gt (blk_lt (g := gb197) (o := .cells #[.int .i64 a0_0, .int .u64 a0_1, .string a0_2] 27 (0, 0)) (by (with_reducible repeat (first | refine blk_drewN ?_ _ | refine blk_drew ?_ | refine blk_alloc ?_ _)); exact BK197.out)) : gb198 ≠ gb197)); clear BK197; clear HB; have BK197 := n0_; have HB := n1_; have BK198 := n2_; have GW198 := n3_; have GE198 := n4_; have NB197_198 := n5_; have NB198_197 := n6_; clear n0_ n1_ n2_ n3_ n4_ n5_ n6_; clear hb hbox hg) | ((with_reducible refine gate_dst (N := 5) rfl ?_); refine box_event ?hg (N := 5) ?hd (cs := #[.int .i64 a2_0, .int .u64 a2_1, .string a2_2]) (t := 27) ?hr ?_; (case hd => rfl); (case hg => rfl); (case hr => first | (go_simp; done) | (go_simp; rfl)); intro gb199 hg w193 hbox hb; have n0_ := Aside0.mk (blk_below (g := gb197) (o := .cells #[.int .i64 a0_0, .int .u64 a0_1, .string a0_2] 27 (0, 0)) (by (with_reducible repeat (first | refine blk_drewN ?_ _ | refine blk_drew ?_ | refine blk_alloc ?_ _)); exact BK197.out) hb); have n1_ := Aside0.mk (blk_below (g := gb198) (o := .cells #[.int .i64 a1_0, .int .u64 a1_1, .string a1_2] 27 (0, 0)) (by (with_reducible repeat (first | refine blk_drewN ?_ _ | refine blk_drew ?_ | refine blk_alloc ?_ _)); exact BK198.out) hb); have n2_ := Aside0.mk (below_step (by repeat (first | (with_reducible first | exact HB.out | apply below_alloc | apply pw_below_drewN | apply below_drew1 | refine below_set ?_ GE197.out | refine below_set ?_ GE198.out) | exact HB.out)) hb); have n3_ := Aside0.mk (hbox); have n4_ := Aside0.mk ((by rw [hg]; exact (below_size (by repeat (first | (with_reducible first | exact HB.out | apply below_alloc | apply pw_below_drewN | apply below_drew1 | refine below_set ?_ GE197.out | refine below_set ?_ GE198.out) | exact HB.out))) : w.heap.size ≤ gb199)); have n5_ := Aside0.mk ((by rw [hg]; exact (below_size (by repeat (first | (with_reducible first | exact HB.out | apply below_alloc | apply pw_below_drewN | apply below_drew1 | refine below_set ?_ GE197.out | refine below_set ?_ GE198.out) | exact HB.out))) : w.heap.size ≤ gb199)); have n6_ := Aside0.mk ((by rw [hg]; exact Nat.ne_of_lt (blk_lt (g := gb197) (o := .cells #[.int .i64 a0_0, .int .u64 a0_1, .string a0_2] 27 (0, 0)) (by (with_reducible repeat (first | refine blk_drewN ?_ _ | refine blk_drew ?_ | refine blk_alloc ?_ _)); exact BK197.out)) : gb197 ≠ gb199)); have n7_ := Aside0.mk ((by rw [hg]; exact Nat.ne_of_gt (blk_lt (g := gb197) (o := .cells #[.int .i64 a0_0, .int .u64 a0_1, .string a0_2] 27 (0, 0)) (by (with_reducible repeat (first | refine blk_drewN ?_ _ | refine blk_drew ?_ | refine blk_alloc ?_ _)); exact BK197.out)) : gb199 ≠ gb197)); have n8_ := Aside0.mk ((by rw [hg]; exact Nat.ne_of_lt (blk_lt (g := gb198) (o := .cells #[.int .i64 a1_0, .int .u64 a1_1, .string a1_2] 27 (0, 0)) (by (with_reducible repeat (first | refine blk_drewN ?_ _ | refine blk_drew ?_ | refine blk_alloc ?_ _)); exact BK198.out)) : gb198 ≠ gb199)); have n9_ := Aside0.mk ((by rw [hg]; exact Nat.ne_of_gt (blk_lt (g := gb198) (o := .cells #[.int .i64 a1_0, .int .u64 a1_1, .string a1_2] 27 (0, 0)) (by (with_reducible repeat (first | refine blk_drewN ?_ _ | refine blk_drew ?_ | refine blk_alloc ?_ _)); exact BK198.out)) : gb199 ≠ gb198)); clear BK197; clear BK198; clear HB; have BK197 := n0_; have BK198 := n1_; have HB := n2_; have BK199 := n3_; have GW199 := n4_; have GE199 := n5_; have NB197_199 := n6_; have NB199_197 := n7_; have NB198_199 := n8_; have NB199_198 := n9_; clear n0_ n1_ n2_ n3_ n4_ n5_ n6_ n7_ n8_ n9_; clear hb hbox hg) | ((with_reducible refine gate_callee (f := 9) rfl ?_); refine goesL_ (some 10) rfl rfl Try.func9 (by kernel_rfl) rfl #[] rfl (by (try simp only [List.map_toArray, List.map_cons, List.map_nil]); first | done | rfl | (simp only [List.length_drop, List.length_take]; rfl)) ?_; (with_reducible refine (stratumlaw04_awake.calls k  false _ A4.out).mono ?_); rintro e w194 ⟨rfl, hb⟩; refine ⟨_, rfl, ?_⟩; have n0_ := Aside0.mk (blk_below (g := gb197) (o := .cells #[.int .i64 a0_0, .int .u64 a0_1, .string a0_2] 27 (0, 0)) (by (with_reducible repeat (first | refine blk_drewN ?_ _ | refine blk_drew ?_ | refine blk_alloc ?_ _)); exact BK197.out) hb); have n1_ := Aside0.mk (blk_below (g := gb198) (o := .cells #[.int .i64 a1_0, .int .u64 a1_1, .string a1_2] 27 (0, 0)) (by (with_reducible repeat (first | refine blk_drewN ?_ _ | refine blk_drew ?_ | refine blk_alloc ?_ _)); exact BK198.out) hb); have n2_ := Aside0.mk (blk_below (g := gb199) (o := .cells #[.int .i64 a2_0, .int .u64 a2_1, .string a2_2] 27 (0, 0)) (by (with_reducible repeat (first | refine blk_drewN ?_ _ | refine blk_drew ?_ | refine blk_alloc ?_ _)); exact BK199.out) hb); have n3_ := Aside0.mk (below_step (by repeat (first | (with_reducible first | exact HB.out | apply below_alloc | apply pw_below_drewN | apply below_drew1 | refine below_set ?_ GE197.out | refine below_set ?_ GE198.out | refine below_set ?_ GE199.out) | exact HB.out)) hb); clear BK197; clear BK198; clear BK199; clear HB; have BK197 := n0_; have BK198 := n1_; have BK199 := n2_; have HB := n3_; clear n0_ n1_ n2_ n3_; (try clear hb); (try clear hb2); (try clear hk); (try clear hi)))
    go_ret
    exact ⟨by first | rfl | (simp [errW_none, errW_some] <;> rfl) | (simp [*, errW_none, errW_some] <;> rfl), by repeat (first | (with_reducible first | exact HB.out | apply below_alloc | apply pw_below_drewN | apply below_drew1 | refine below_set ?_ GE197.out | refine below_set ?_ GE198.out | refine below_set ?_ GE199.out) | exact HB.out)⟩

end Go.Proofs.Ytepkmbbeaaljlaa.X
