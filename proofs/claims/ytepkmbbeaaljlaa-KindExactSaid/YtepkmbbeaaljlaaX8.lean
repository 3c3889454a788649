-- Written by wip/printx.py: the kit's printer with functions proved by hand. Not trusted: Lean checks it.
import Derived.Test.YtepkmbbeaaljlaaX0
import Derived.Test.YtepkmbbeaaljlaaX1
import Derived.Test.YtepkmbbeaaljlaaX7
namespace Go.Proofs.Ytepkmbbeaaljlaa.X
open Go.RowKit Go.Proofs.YtepkmbbeaaljlaaW.PrintWords Go.Proofs.YtepkmbbeaaljlaaW.PrintLast Go.Proofs.YtepkmbbeaaljlaaW.PrintMore
attribute [local go_sem] max2_int min2_int max_two min_two max_three min_three max_four min_four   -- for this text's walks alone
set_option linter.unusedVariables false
set_option linter.unusedSimpArgs false

attribute [local go_sem] vx_gtr vx_leq vx_geq
attribute [local go_sem high] eqA27
/-! ### stratumref04_Order: function 13 -/
mutual
def stratumref04_Order.j0 : Nat → Int → Int → Bool → Int → Int → ByteArray → Int → Int → ByteArray → Option (Int)
  | 0, _, _, _, _, _, _, _, _, _ => none
  | k + 1, x5, x6, x18, x175000, x175001, x175002, x176000, x176001, x176002 => if x18 = true then (stratumref04_Order.j1 k (IntKind.u64.wrap (x5 + 9223372036854775808)) (IntKind.u64.wrap (x6 + 9223372036854775808)) x175000 x175001 x175002 x176000 x176001 x176002) else (stratumref04_Order.j1 k x5 x6 x175000 x175001 x175002 x176000 x176001 x176002)
def stratumref04_Order.j1 : Nat → Int → Int → Int → Int → ByteArray → Int → Int → ByteArray → Option (Int)
  | 0, _, _, _, _, _, _, _, _ => none
  | k + 1, x5, x6, x175000, x175001, x175002, x176000, x176001, x176002 => if x175000 < x176000 then (stratumref04_Order.j2 k true x175000 x175001 x175002 x176000 x176001 x176002) else (if x175000 = x176000 then (if x5 < x6 then (stratumref04_Order.j2 k true x175000 x175001 x175002 x176000 x176001 x176002) else (if x5 = x6 then ((stratumref04_Less.f k x175002 x176002).bind fun t176 => (stratumref04_Order.j2 k t176 x175000 x175001 x175002 x176000 x176001 x176002)) else (stratumref04_Order.j2 k false x175000 x175001 x175002 x176000 x176001 x176002))) else (stratumref04_Order.j2 k false x175000 x175001 x175002 x176000 x176001 x176002))
def stratumref04_Order.j2 : Nat → Bool → Int → Int → ByteArray → Int → Int → ByteArray → Option (Int)
  | 0, _, _, _, _, _, _, _ => none
  | k + 1, x51, x175000, x175001, x175002, x176000, x176001, x176002 => if x51 = true then (some (-1)) else (if (x175000 == x176000 && (x175001 == x176001 && (x175002.toList == x176002.toList))) = true then (some 0) else (some 1))
end
def stratumref04_Order.f (k : Nat) (a0_0 : Int) (a0_1 : Int) (a0_2 : ByteArray) (a1_0 : Int) (a1_1 : Int) (a1_2 : ByteArray) : Option (Int) := if a0_0 = 2 then (stratumref04_Order.j0 k a0_1 a1_1 (a1_0 == 2) a0_0 a0_1 a0_2 a1_0 a1_1 a1_2) else (stratumref04_Order.j0 k a0_1 a1_1 false a0_0 a0_1 a0_2 a1_0 a1_1 a1_2)
theorem stratumref04_Order.mono_l : ∀ k, (∀ y0 y1 y2 y3 y4 y5 y6 y7 y8, LeO (stratumref04_Order.j0 k y0 y1 y2 y3 y4 y5 y6 y7 y8) (stratumref04_Order.j0 (k + 1) y0 y1 y2 y3 y4 y5 y6 y7 y8)) ∧ (∀ y0 y1 y2 y3 y4 y5 y6 y7, LeO (stratumref04_Order.j1 k y0 y1 y2 y3 y4 y5 y6 y7) (stratumref04_Order.j1 (k + 1) y0 y1 y2 y3 y4 y5 y6 y7)) ∧ (∀ y0 y1 y2 y3 y4 y5 y6, LeO (stratumref04_Order.j2 k y0 y1 y2 y3 y4 y5 y6) (stratumref04_Order.j2 (k + 1) y0 y1 y2 y3 y4 y5 y6))
  | 0 => ⟨fun _ _ _ _ _ _ _ _ _ r h => by simp [stratumref04_Order.j0] at h, fun _ _ _ _ _ _ _ _ r h => by simp [stratumref04_Order.j1] at h, fun _ _ _ _ _ _ _ r h => by simp [stratumref04_Order.j2] at h⟩
  | k + 1 => by
    obtain ⟨ih0, ih1, ih2⟩ := stratumref04_Order.mono_l k
    refine ⟨?_, ?_, ?_⟩
    · intro y0 y1 y2 y3 y4 y5 y6 y7 y8
      unfold stratumref04_Order.j0
      repeat' first
      | (with_reducible exact ih0 _ _ _ _ _ _ _ _ _)
      | (with_reducible exact ih1 _ _ _ _ _ _ _ _)
      | (with_reducible exact ih2 _ _ _ _ _ _ _)
      | (with_reducible exact stratumref04_Less.mono _ _ _)
      | (with_reducible exact LeO.refl _)
      | (with_reducible exact LeO.none _)
      | (with_reducible refine LeO.ite ?_ ?_)
      | (with_reducible refine LeO.bind ?_ (fun _ => ?_))
      | exact ih0 _ _ _ _ _ _ _ _ _
      | exact ih1 _ _ _ _ _ _ _ _
      | exact ih2 _ _ _ _ _ _ _
      | exact stratumref04_Less.mono _ _ _
      | exact LeO.none _
      | refine LeO.ite ?_ ?_
      | refine LeO.bind ?_ (fun _ => ?_)
    · intro y0 y1 y2 y3 y4 y5 y6 y7
      unfold stratumref04_Order.j1
      repeat' first
      | (with_reducible exact ih0 _ _ _ _ _ _ _ _ _)
      | (with_reducible exact ih1 _ _ _ _ _ _ _ _)
      | (with_reducible exact ih2 _ _ _ _ _ _ _)
      | (with_reducible exact stratumref04_Less.mono _ _ _)
      | (with_reducible exact LeO.refl _)
      | (with_reducible exact LeO.none _)
      | (with_reducible refine LeO.ite ?_ ?_)
      | (with_reducible refine LeO.bind ?_ (fun _ => ?_))
      | exact ih0 _ _ _ _ _ _ _ _ _
      | exact ih1 _ _ _ _ _ _ _ _
      | exact ih2 _ _ _ _ _ _ _
      | exact stratumref04_Less.mono _ _ _
      | exact LeO.none _
      | refine LeO.ite ?_ ?_
      | refine LeO.bind ?_ (fun _ => ?_)
    · intro y0 y1 y2 y3 y4 y5 y6
      unfold stratumref04_Order.j2
      repeat' first
      | (with_reducible exact ih0 _ _ _ _ _ _ _ _ _)
      | (with_reducible exact ih1 _ _ _ _ _ _ _ _)
      | (with_reducible exact ih2 _ _ _ _ _ _ _)
      | (with_reducible exact stratumref04_Less.mono _ _ _)
      | (with_reducible exact LeO.refl _)
      | (with_reducible exact LeO.none _)
      | (with_reducible refine LeO.ite ?_ ?_)
      | (with_reducible refine LeO.bind ?_ (fun _ => ?_))
      | exact ih0 _ _ _ _ _ _ _ _ _
      | exact ih1 _ _ _ _ _ _ _ _
      | exact ih2 _ _ _ _ _ _ _
      | exact stratumref04_Less.mono _ _ _
      | exact LeO.none _
      | refine LeO.ite ?_ ?_
      | refine LeO.bind ?_ (fun _ => ?_)
theorem stratumref04_Order.mono : ∀ a0 a1 a2 a3 a4 a5 k, LeO (stratumref04_Order.f k a0 a1 a2 a3 a4 a5) (stratumref04_Order.f (k + 1) a0 a1 a2 a3 a4 a5) := by
  intro a0 a1 a2 a3 a4 a5 k
  obtain ⟨ih0, ih1, ih2⟩ := stratumref04_Order.mono_l k
  unfold stratumref04_Order.f
  repeat' first
      | (with_reducible exact ih0 _ _ _ _ _ _ _ _ _)
      | (with_reducible exact ih1 _ _ _ _ _ _ _ _)
      | (with_reducible exact ih2 _ _ _ _ _ _ _)
      | (with_reducible exact stratumref04_Less.mono _ _ _)
      | (with_reducible exact LeO.refl _)
      | (with_reducible exact LeO.none _)
      | (with_reducible refine LeO.ite ?_ ?_)
      | (with_reducible refine LeO.bind ?_ (fun _ => ?_))
      | exact ih0 _ _ _ _ _ _ _ _ _
      | exact ih1 _ _ _ _ _ _ _ _
      | exact ih2 _ _ _ _ _ _ _
      | exact stratumref04_Less.mono _ _ _
      | exact LeO.none _
      | refine LeO.ite ?_ ?_
      | refine LeO.bind ?_ (fun _ => ?_)
set_option maxHeartbeats 8000000 in
set_option maxRecDepth 100000 in
theorem stratumref04_Order.calls (k : Nat) (a0_0 : Int) (a0_1 : Int) (a0_2 : ByteArray) (a1_0 : Int) (a1_1 : Int) (a1_2 : ByteArray) (r : Int) (w : World) (h : stratumref04_Order.f k a0_0 a0_1 a0_2 a1_0 a1_1 a1_2 = some r) :
    Calls Try.prog 13 #[.agg #[.int .i64 a0_0, .int .u64 a0_1, .string a0_2], .agg #[.int .i64 a1_0, .int .u64 a1_1, .string a1_2]] w fun e w' => e = .returned (.int .i64 r) ∧ Below w.heap.size w w' := by
  have hu27 := Try.underlying27
  have HB := Aside0.mk (Below.refl w.heap.size w)
  have H : (if a0_0 = 2 then (stratumref04_Order.j0 k a0_1 a1_1 (a1_0 == 2) a0_0 a0_1 a0_2 a1_0 a1_1 a1_2) else (stratumref04_Order.j0 k a0_1 a1_1 false a0_0 a0_1 a0_2 a1_0 a1_1 a1_2)) = some r := h
  clear h
  have HC3 := Aside0.mk H
  clear H
  go_enter Try.func13, Try.ntmps13
  go_upto_region 3 with (first | ((with_reducible refine gate_dst (N := 2) rfl ?_); refine box_event ?hg (N := 2) ?hd (cs := #[.int .i64 a0_0, .int .u64 a0_1, .string a0_2]) (t := 27) ?hr ?_; (case hd => rfl); (case hg => rfl); (case hr => first | (go_simp; done) | (go_simp; rfl)); intro gb174 hg w4 hbox hb; have n0_ := Aside0.mk (below_step (by repeat (first | (with_reducible first | exact HB.out | apply below_alloc | apply pw_below_drewN | apply below_drew1) | exact HB.out)) hb); have n1_ := Aside0.mk (hbox); have n2_ := Aside0.mk ((by rw [hg]; exact (below_size (by repeat (first | (with_reducible first | exact HB.out | apply below_alloc | apply pw_below_drewN | apply below_drew1) | exact HB.out))) : w.heap.size ≤ gb174)); have n3_ := Aside0.mk ((by rw [hg]; exact (below_size (by repeat (first | (with_reducible first | exact HB.out | apply below_alloc | apply pw_below_drewN | apply below_drew1) | exact HB.out))) : w.heap.size ≤ gb174)); clear HB; have HB := n0_; have BK174 := n1_; have GW174 := n2_; have GE174 := n3_; clear n0_ n1_ n2_ n3_; clear hb hbox hg) | ((with_reducible refine gate_dst (N := 3) rfl ?_); refine box_event ?hg (N := 3) ?hd (cs := #[.int .i64 a1_0, .int .u64 a1_1, .string a1_2]) (t := 27) ?hr ?_; (case hd => rfl); (case hg => rfl); (case hr => first | (go_simp; done) | (go_simp; rfl)); intro gb175 hg w5 hbox hb; have n0_ := Aside0.mk (blk_below (g := gb174) (o := .cells #[.int .i64 a0_0, .int .u64 a0_1, .string a0_2] 27 (0, 0)) (by (with_reducible repeat (first | refine blk_drewN ?_ _ | refine blk_drew ?_ | refine blk_alloc ?_ _)); exact BK174.out) hb); have n1_ := Aside0.mk (below_step (by repeat (first | (with_reducible first | exact HB.out | apply below_alloc | apply pw_below_drewN | apply below_drew1 | refine below_set ?_ GE174.out) | exact HB.out)) hb); have n2_ := Aside0.mk (hbox); have n3_ := Aside0.mk ((by rw [hg]; exact (below_size (by repeat (first | (with_reducible first | exact HB.out | apply below_alloc | apply pw_below_drewN | apply below_drew1 | refine below_set ?_ GE174.out) | exact HB.out))) : w.heap.size ≤ gb175)); have n4_ := Aside0.mk ((by rw [hg]; exact (below_size (by repeat (first | (with_reducible first | exact HB.out | apply below_alloc | apply pw_below_drewN | apply below_drew1 | refine below_set ?_ GE174.out) | exact HB.out))) : w.heap.size ≤ gb175)); have n5_ := Aside0.mk ((by rw [hg]; exact Nat.ne_of_lt (blk_lt (g := gb174) (o := .cells #[.int .i64 a0_0, .int .u64 a0_1, .string a0_2] 27 (0, 0)) (by (with_reducible repeat (first | refine blk_drewN ?_ _ | refine blk_drew ?_ | refine blk_alloc ?_ _)); exact BK174.out)) : gb174 ≠ gb175)); have n6_ := Aside0.mk ((by rw [hg]; exact Nat.ne_of_gt (blk_lt (g := gb174) (o := .cells #[.int .i64 a0_0, .int .u64 a0_1, .string a0_2] 27 (0, 0)) (by (with_reducible repeat (first | refine blk_drewN ?_ _ | refine blk_drew ?_ | refine blk_alloc ?_ _)); exact BK174.out)) : gb175 ≠ gb174)); clear BK174; clear HB; have BK174 := n0_; have HB := n1_; have BK175 := n2_; have GW175 := n3_; have GE175 := n4_; have NB174_175 := n5_; have NB175_174 := n6_; clear n0_ n1_ n2_ n3_ n4_ n5_ n6_; clear hb hbox hg; have hnb6 := NB174_175.out; have hnc6 := NB175_174.out; have hcz7_0 : w5.cell? ⟨gb174, 0, none⟩ = some (.int .i64 a0_0) := (blk_cell BK174.out 0).trans rfl; have hcz7_1 : w5.cell? ⟨gb174, 1, none⟩ = some (.int .u64 a0_1) := (blk_cell BK174.out 1).trans rfl; have hcz7_2 : w5.cell? ⟨gb174, 2, none⟩ = some (.string a0_2) := (blk_cell BK174.out 2).trans rfl; have hfz7_0 := blk_frozen BK174.out 0; have hfz7_1 := blk_frozen BK174.out 1; have hfz7_2 := blk_frozen BK174.out 2; have hcz8_0 : w5.cell? ⟨gb175, 0, none⟩ = some (.int .i64 a1_0) := (blk_cell BK175.out 0).trans rfl; have hcz8_1 : w5.cell? ⟨gb175, 1, none⟩ = some (.int .u64 a1_1) := (blk_cell BK175.out 1).trans rfl; have hcz8_2 : w5.cell? ⟨gb175, 2, none⟩ = some (.string a1_2) := (blk_cell BK175.out 2).trans rfl; have hfz8_0 := blk_frozen BK175.out 0; have hfz8_1 := blk_frozen BK175.out 1; have hfz8_2 := blk_frozen BK175.out 2))
  (try simp only [Act.put, List.setIfInBounds_toArray, List.set_cons_zero, List.set_cons_succ])
  go_cut [18] (fun v18 wc => ∃ (kq : Nat) (x18_2 : Bool), v18 = .bool x18_2 ∧ Aside0 (stratumref04_Order.j0 kq a0_1 a1_1 x18_2 a0_0 a0_1 a0_2 a1_0 a1_1 a1_2 = some r) ∧ Aside0 (kq ≤ k) ∧ Aside0 (wc.heap[gb174]? = some (.cells #[.int .i64 a0_0, .int .u64 a0_1, .string a0_2] 27 (0, 0))) ∧ Aside0 (wc.heap[gb175]? = some (.cells #[.int .i64 a1_0, .int .u64 a1_1, .string a1_2] 27 (0, 0))) ∧ Aside0 (Below w.heap.size w wc))
  case first =>
    have H := HC3.out
    clear HC3
    by_cases c9 : a0_0 = 2
    · rw [if_pos c9] at H
      have c9b0 : (a0_0 == 2) = true := beq_iff_eq.mpr c9
      have c9b1 : (a0_0 != 2) = false := bne_eq_false_iff_eq.mpr c9
      clear c9
      (first | rw [c9b0] | (simp only [i64_w, i32_w]; rw [c9b0]) | skip)
      have H' := Aside0.mk H
      clear H
      have hnb10 := NB174_175.out
      have hnc10 := NB175_174.out
      have hcz11_0 : w5.cell? ⟨gb174, 0, none⟩ = some (.int .i64 a0_0) := (blk_cell BK174.out 0).trans rfl
      have hcz11_1 : w5.cell? ⟨gb174, 1, none⟩ = some (.int .u64 a0_1) := (blk_cell BK174.out 1).trans rfl
      have hcz11_2 : w5.cell? ⟨gb174, 2, none⟩ = some (.string a0_2) := (blk_cell BK174.out 2).trans rfl
      have hfz11_0 := blk_frozen BK174.out 0
      have hfz11_1 := blk_frozen BK174.out 1
      have hfz11_2 := blk_frozen BK174.out 2
      have hcz12_0 : w5.cell? ⟨gb175, 0, none⟩ = some (.int .i64 a1_0) := (blk_cell BK175.out 0).trans rfl
      have hcz12_1 : w5.cell? ⟨gb175, 1, none⟩ = some (.int .u64 a1_1) := (blk_cell BK175.out 1).trans rfl
      have hcz12_2 : w5.cell? ⟨gb175, 2, none⟩ = some (.string a1_2) := (blk_cell BK175.out 2).trans rfl
      have hfz12_0 := blk_frozen BK175.out 0
      have hfz12_1 := blk_frozen BK175.out 1
      have hfz12_2 := blk_frozen BK175.out 2
      go_wp2
      go_meet
      case rel => exact ⟨_, ((a1_0 == 2)), (by first | rfl | (simp; done) | (simp [*]; done)), H', ⟨by first | omega | exact Nat.le_refl _⟩, ⟨by (with_reducible repeat (first | refine blk_drewN ?_ _ | refine blk_drew ?_ | refine blk_alloc ?_ _)); exact BK174.out⟩, ⟨by (with_reducible repeat (first | refine blk_drewN ?_ _ | refine blk_drew ?_ | refine blk_alloc ?_ _)); exact BK175.out⟩, ⟨by repeat (first | (with_reducible first | exact HB.out | apply below_alloc | apply pw_below_drewN | apply below_drew1 | refine below_set ?_ GE174.out | refine below_set ?_ GE175.out) | exact HB.out)⟩⟩
    · rw [if_neg c9] at H
      have c9b0 : (a0_0 == 2) = false := beq_eq_false_iff_ne.mpr c9
      have c9b1 : (a0_0 != 2) = true := bne_iff_ne.mpr c9
      (first | rw [c9b0] | (simp only [i64_w, i32_w]; rw [c9b0]) | skip)
      have H' := Aside0.mk H
      clear H
      have hnb13 := NB174_175.out
      have hnc13 := NB175_174.out
      have hcz14_0 : w5.cell? ⟨gb174, 0, none⟩ = some (.int .i64 a0_0) := (blk_cell BK174.out 0).trans rfl
      have hcz14_1 : w5.cell? ⟨gb174, 1, none⟩ = some (.int .u64 a0_1) := (blk_cell BK174.out 1).trans rfl
      have hcz14_2 : w5.cell? ⟨gb174, 2, none⟩ = some (.string a0_2) := (blk_cell BK174.out 2).trans rfl
      have hfz14_0 := blk_frozen BK174.out 0
      have hfz14_1 := blk_frozen BK174.out 1
      have hfz14_2 := blk_frozen BK174.out 2
      go_wp2
      go_meet
      case rel => exact ⟨_, (false), (by first | rfl | (simp; done) | (simp [*]; done)), H', ⟨by first | omega | exact Nat.le_refl _⟩, ⟨by (with_reducible repeat (first | refine blk_drewN ?_ _ | refine blk_drew ?_ | refine blk_alloc ?_ _)); exact BK174.out⟩, ⟨by (with_reducible repeat (first | refine blk_drewN ?_ _ | refine blk_drew ?_ | refine blk_alloc ?_ _)); exact BK175.out⟩, ⟨by repeat (first | (with_reducible first | exact HB.out | apply below_alloc | apply pw_below_drewN | apply below_drew1 | refine below_set ?_ GE174.out | refine below_set ?_ GE175.out) | exact HB.out)⟩⟩
  case rest =>
    clear HC3
    try clear c1
    try clear p2
    try clear c6
    try clear c9
    try clear c9b0
    try clear c9b1
    try clear c10
    try clear c13
    try clear hcz11_0
    try clear hcz11_1
    try clear hcz11_2
    try clear hcz12_0
    try clear hcz12_1
    try clear hcz12_2
    try clear hcz14_0
    try clear hcz14_1
    try clear hcz14_2
    try clear hcz7_0
    try clear hcz7_1
    try clear hcz7_2
    try clear hcz8_0
    try clear hcz8_1
    try clear hcz8_2
    try clear hfz11_0
    try clear hfz11_1
    try clear hfz11_2
    try clear hfz12_0
    try clear hfz12_1
    try clear hfz12_2
    try clear hfz14_0
    try clear hfz14_1
    try clear hfz14_2
    try clear hfz7_0
    try clear hfz7_1
    try clear hfz7_2
    try clear hfz8_0
    try clear hfz8_1
    try clear hfz8_2
    obtain ⟨kq, x18_2, rfl, HA, HJ2, BK174, BK175, HB⟩ := hcut
    cases kq with
    | zero => exact absurd HA.out (by simp [stratumref04_Order.j0])
    | succ kj2 =>
      have H := HA.out
      clear HA
      simp only [stratumref04_Order.j0] at H
      have HC15 := Aside0.mk H
      clear H
      go_upto_if 18 with (fail)
      go_cut [5, 6] (fun v5 v6 wc => ∃ (kq : Nat) (x5_14 : Int) (x6_14 : Int), v5 = .int .u64 x5_14 ∧ v6 = .int .u64 x6_14 ∧ Aside0 (stratumref04_Order.j1 kq x5_14 x6_14 a0_0 a0_1 a0_2 a1_0 a1_1 a1_2 = some r) ∧ Aside0 (kq ≤ kj2) ∧ Aside0 (wc.heap[gb174]? = some (.cells #[.int .i64 a0_0, .int .u64 a0_1, .string a0_2] 27 (0, 0))) ∧ Aside0 (wc.heap[gb175]? = some (.cells #[.int .i64 a1_0, .int .u64 a1_1, .string a1_2] 27 (0, 0))) ∧ Aside0 (Below w.heap.size w wc))
      case first =>
        have H := HC15.out
        clear HC15
        by_cases c16 : x18_2 = true
        · subst c16
          have H1 : (stratumref04_Order.j1 kj2 (IntKind.u64.wrap (a0_1 + 9223372036854775808)) (IntKind.u64.wrap (a1_1 + 9223372036854775808)) a0_0 a0_1 a0_2 a1_0 a1_1 a1_2) = some r := by rw [if_pos rfl] at H; exact H
          clear H
          have H := H1
          clear H1
          have H' := Aside0.mk H
          clear H
          go_wp2
          go_meet
          case rel => exact ⟨_, (IntKind.u64.wrap (a0_1 + 9223372036854775808)), (IntKind.u64.wrap (a1_1 + 9223372036854775808)), (by first | rfl | (simp; done) | (simp [*]; done)), (by first | rfl | (simp; done) | (simp [*]; done)), H', ⟨by have := HJ2.out; first | omega | exact Nat.le_refl _⟩, ⟨by (with_reducible repeat (first | refine blk_drewN ?_ _ | refine blk_drew ?_ | refine blk_alloc ?_ _)); exact BK174.out⟩, ⟨by (with_reducible repeat (first | refine blk_drewN ?_ _ | refine blk_drew ?_ | refine blk_alloc ?_ _)); exact BK175.out⟩, ⟨by repeat (first | (with_reducible first | exact HB.out | apply below_alloc | apply pw_below_drewN | apply below_drew1 | refine below_set ?_ GE174.out | refine below_set ?_ GE175.out) | exact HB.out)⟩⟩
        · replace c16 := Bool.eq_false_iff.mpr c16
          subst c16
          have H1 : (stratumref04_Order.j1 kj2 a0_1 a1_1 a0_0 a0_1 a0_2 a1_0 a1_1 a1_2) = some r := by rw [if_neg (show ¬ (false = true) by decide)] at H; exact H
          clear H
          have H := H1
          clear H1
          have H' := Aside0.mk H
          clear H
          go_wp2
          go_meet
          case rel => exact ⟨_, (a0_1), (a1_1), (by first | rfl | (simp; done) | (simp [*]; done)), (by first | rfl | (simp; done) | (simp [*]; done)), H', ⟨by have := HJ2.out; first | omega | exact Nat.le_refl _⟩, ⟨by (with_reducible repeat (first | refine blk_drewN ?_ _ | refine blk_drew ?_ | refine blk_alloc ?_ _)); exact BK174.out⟩, ⟨by (with_reducible repeat (first | refine blk_drewN ?_ _ | refine blk_drew ?_ | refine blk_alloc ?_ _)); exact BK175.out⟩, ⟨by repeat (first | (with_reducible first | exact HB.out | apply below_alloc | apply pw_below_drewN | apply below_drew1 | refine below_set ?_ GE174.out | refine below_set ?_ GE175.out) | exact HB.out)⟩⟩
      case rest =>
        clear HC15
        try clear c1
        try clear p2
        try clear c6
        try clear c9
        try clear c9b0
        try clear c9b1
        try clear c10
        try clear c13
        try clear c16
        try clear hcz11_0
        try clear hcz11_1
        try clear hcz11_2
        try clear hcz12_0
        try clear hcz12_1
        try clear hcz12_2
        try clear hcz14_0
        try clear hcz14_1
        try clear hcz14_2
        try clear hcz7_0
        try clear hcz7_1
        try clear hcz7_2
        try clear hcz8_0
        try clear hcz8_1
        try clear hcz8_2
        try clear hfz11_0
        try clear hfz11_1
        try clear hfz11_2
        try clear hfz12_0
        try clear hfz12_1
        try clear hfz12_2
        try clear hfz14_0
        try clear hfz14_1
        try clear hfz14_2
        try clear hfz7_0
        try clear hfz7_1
        try clear hfz7_2
        try clear hfz8_0
        try clear hfz8_1
        try clear hfz8_2
        try clear p2
        obtain ⟨kq, x5_14, x6_14, rfl, rfl, HA, HJ14, BK174, BK175, HB⟩ := hcut
        cases kq with
        | zero => exact absurd HA.out (by simp [stratumref04_Order.j1])
        | succ kj14 =>
          have H := HA.out
          clear HA
          simp only [stratumref04_Order.j1] at H
          have HC17 := Aside0.mk H
          clear H
          go_upto_region 6 with (fail)
          go_cut [51] (fun v51 wc => ∃ (kq : Nat) (x51_16 : Bool), v51 = .bool x51_16 ∧ Aside0 (stratumref04_Order.j2 kq x51_16 a0_0 a0_1 a0_2 a1_0 a1_1 a1_2 = some r) ∧ Aside0 (kq ≤ kj14) ∧ Aside0 (wc.heap[gb174]? = some (.cells #[.int .i64 a0_0, .int .u64 a0_1, .string a0_2] 27 (0, 0))) ∧ Aside0 (wc.heap[gb175]? = some (.cells #[.int .i64 a1_0, .int .u64 a1_1, .string a1_2] 27 (0, 0))) ∧ Aside0 (Below w.heap.size w wc))
          case first =>
            have H := HC17.out
            clear HC17
            by_cases c18 : a0_0 < a1_0
            · rw [if_pos c18] at H
              have c18b0 : decide (a0_0 < a1_0) = true := decide_eq_true c18
              clear c18
              (first | rw [c18b0] | (simp only [i64_w, i32_w]; rw [c18b0]) | skip)
              have H' := Aside0.mk H
              clear H
              have hnb19 := NB174_175.out
              have hnc19 := NB175_174.out
              have hcz20_0 : wc.cell? ⟨gb174, 0, none⟩ = some (.int .i64 a0_0) := (blk_cell BK174.out 0).trans rfl
              have hcz20_1 : wc.cell? ⟨gb174, 1, none⟩ = some (.int .u64 a0_1) := (blk_cell BK174.out 1).trans rfl
              have hcz20_2 : wc.cell? ⟨gb174, 2, none⟩ = some (.string a0_2) := (blk_cell BK174.out 2).trans rfl
              have hfz20_0 := blk_frozen BK174.out 0
              have hfz20_1 := blk_frozen BK174.out 1
              have hfz20_2 := blk_frozen BK174.out 2
              have hcz21_0 : wc.cell? ⟨gb175, 0, none⟩ = some (.int .i64 a1_0) := (blk_cell BK175.out 0).trans rfl
              have hcz21_1 : wc.cell? ⟨gb175, 1, none⟩ = some (.int .u64 a1_1) := (blk_cell BK175.out 1).trans rfl
              have hcz21_2 : wc.cell? ⟨gb175, 2, none⟩ = some (.string a1_2) := (blk_cell BK175.out 2).trans rfl
              have hfz21_0 := blk_frozen BK175.out 0
              have hfz21_1 := blk_frozen BK175.out 1
              have hfz21_2 := blk_frozen BK175.out 2
              go_wp2
              go_meet
              case rel => exact ⟨_, (true), (by first | rfl | (simp; done) | (simp [*]; done)), H', ⟨by have := HJ2.out; have := HJ14.out; first | omega | exact Nat.le_refl _⟩, ⟨by (with_reducible repeat (first | refine blk_drewN ?_ _ | refine blk_drew ?_ | refine blk_alloc ?_ _)); exact BK174.out⟩, ⟨by (with_reducible repeat (first | refine blk_drewN ?_ _ | refine blk_drew ?_ | refine blk_alloc ?_ _)); exact BK175.out⟩, ⟨by repeat (first | (with_reducible first | exact HB.out | apply below_alloc | apply pw_below_drewN | apply below_drew1 | refine below_set ?_ GE174.out | refine below_set ?_ GE175.out) | exact HB.out)⟩⟩
            · rw [if_neg c18] at H
              have c18b0 : decide (a0_0 < a1_0) = false := decide_eq_false c18
              clear c18
              (first | rw [c18b0] | (simp only [i64_w, i32_w]; rw [c18b0]) | skip)
              by_cases c22 : a0_0 = a1_0
              · rw [if_pos c22] at H
                have c22b0 : (a0_0 == a1_0) = true := beq_iff_eq.mpr c22
                have c22b1 : (a0_0 != a1_0) = false := bne_eq_false_iff_eq.mpr c22
                clear c22
                by_cases c23 : x5_14 < x6_14
                · rw [if_pos c23] at H
                  have c23b0 : decide (x5_14 < x6_14) = true := decide_eq_true c23
                  clear c23
                  have H' := Aside0.mk H
                  clear H
                  have hnb24 := NB174_175.out
                  have hnc24 := NB175_174.out
                  have hcz25_0 : wc.cell? ⟨gb174, 0, none⟩ = some (.int .i64 a0_0) := (blk_cell BK174.out 0).trans rfl
                  have hcz25_1 : wc.cell? ⟨gb174, 1, none⟩ = some (.int .u64 a0_1) := (blk_cell BK174.out 1).trans rfl
                  have hcz25_2 : wc.cell? ⟨gb174, 2, none⟩ = some (.string a0_2) := (blk_cell BK174.out 2).trans rfl
                  have hfz25_0 := blk_frozen BK174.out 0
                  have hfz25_1 := blk_frozen BK174.out 1
                  have hfz25_2 := blk_frozen BK174.out 2
                  have hcz26_0 : wc.cell? ⟨gb175, 0, none⟩ = some (.int .i64 a1_0) := (blk_cell BK175.out 0).trans rfl
                  have hcz26_1 : wc.cell? ⟨gb175, 1, none⟩ = some (.int .u64 a1_1) := (blk_cell BK175.out 1).trans rfl
                  have hcz26_2 : wc.cell? ⟨gb175, 2, none⟩ = some (.string a1_2) := (blk_cell BK175.out 2).trans rfl
                  have hfz26_0 := blk_frozen BK175.out 0
                  have hfz26_1 := blk_frozen BK175.out 1
                  have hfz26_2 := blk_frozen BK175.out 2
                  go_wp2
                  go_meet
                  case rel => exact ⟨_, (true), (by first | rfl | (simp; done) | (simp [*]; done)), H', ⟨by have := HJ2.out; have := HJ14.out; first | omega | exact Nat.le_refl _⟩, ⟨by (with_reducible repeat (first | refine blk_drewN ?_ _ | refine blk_drew ?_ | refine blk_alloc ?_ _)); exact BK174.out⟩, ⟨by (with_reducible repeat (first | refine blk_drewN ?_ _ | refine blk_drew ?_ | refine blk_alloc ?_ _)); exact BK175.out⟩, ⟨by repeat (first | (with_reducible first | exact HB.out | apply below_alloc | apply pw_below_drewN | apply below_drew1 | refine below_set ?_ GE174.out | refine below_set ?_ GE175.out) | exact HB.out)⟩⟩
                · rw [if_neg c23] at H
                  have c23b0 : decide (x5_14 < x6_14) = false := decide_eq_false c23
                  clear c23
                  by_cases c27 : x5_14 = x6_14
                  · rw [if_pos c27] at H
                    have c27b0 : (x5_14 == x6_14) = true := beq_iff_eq.mpr c27
                    have c27b1 : (x5_14 != x6_14) = false := bne_eq_false_iff_eq.mpr c27
                    clear c27
                    replace H := Option.bind_eq_some_iff.mp H
                    obtain ⟨t176, A280, H⟩ := H
                    replace H : (stratumref04_Order.j2 kj14 t176 a0_0 a0_1 a0_2 a1_0 a1_1 a1_2) = some r := H
                    have A28 := Aside0.mk A280
                    clear A280
                    have H' := Aside0.mk H
                    clear H
                    have hnb29 := NB174_175.out
                    have hnc29 := NB175_174.out
                    have hcz30_0 : wc.cell? ⟨gb174, 0, none⟩ = some (.int .i64 a0_0) := (blk_cell BK174.out 0).trans rfl
                    have hcz30_1 : wc.cell? ⟨gb174, 1, none⟩ = some (.int .u64 a0_1) := (blk_cell BK174.out 1).trans rfl
                    have hcz30_2 : wc.cell? ⟨gb174, 2, none⟩ = some (.string a0_2) := (blk_cell BK174.out 2).trans rfl
                    have hfz30_0 := blk_frozen BK174.out 0
                    have hfz30_1 := blk_frozen BK174.out 1
                    have hfz30_2 := blk_frozen BK174.out 2
                    have hcz31_0 : wc.cell? ⟨gb175, 0, none⟩ = some (.int .i64 a1_0) := (blk_cell BK175.out 0).trans rfl
                    have hcz31_1 : wc.cell? ⟨gb175, 1, none⟩ = some (.int .u64 a1_1) := (blk_cell BK175.out 1).trans rfl
                    have hcz31_2 : wc.cell? ⟨gb175, 2, none⟩ = some (.string a1_2) := (blk_cell BK175.out 2).trans rfl
                    have hfz31_0 := blk_frozen BK175.out 0
                    have hfz31_1 := blk_frozen BK175.out 1
                    have hfz31_2 := blk_frozen BK175.out 2
                    go_wp2_with (first | (go_at_call 35; (with_reducible refine (stratumref04_Less.calls kj14 a0_2 a1_2 t176 _ A28.out).mono ?_); rintro e w' ⟨rfl, ⟨nd, rfl⟩⟩))
                    go_meet
                    case rel => exact ⟨_, (t176), (by first | rfl | (simp; done) | (simp [*]; done)), H', ⟨by have := HJ2.out; have := HJ14.out; first | omega | exact Nat.le_refl _⟩, ⟨by (with_reducible repeat (first | refine blk_drewN ?_ _ | refine blk_drew ?_ | refine blk_alloc ?_ _)); exact BK174.out⟩, ⟨by (with_reducible repeat (first | refine blk_drewN ?_ _ | refine blk_drew ?_ | refine blk_alloc ?_ _)); exact BK175.out⟩, ⟨by repeat (first | (with_reducible first | exact HB.out | apply below_alloc | apply pw_below_drewN | apply below_drew1 | refine below_set ?_ GE174.out | refine below_set ?_ GE175.out) | exact HB.out)⟩⟩
                  · rw [if_neg c27] at H
                    have c27b0 : (x5_14 == x6_14) = false := beq_eq_false_iff_ne.mpr c27
                    have c27b1 : (x5_14 != x6_14) = true := bne_iff_ne.mpr c27
                    have H' := Aside0.mk H
                    clear H
                    have hnb32 := NB174_175.out
                    have hnc32 := NB175_174.out
                    have hcz33_0 : wc.cell? ⟨gb174, 0, none⟩ = some (.int .i64 a0_0) := (blk_cell BK174.out 0).trans rfl
                    have hcz33_1 : wc.cell? ⟨gb174, 1, none⟩ = some (.int .u64 a0_1) := (blk_cell BK174.out 1).trans rfl
                    have hcz33_2 : wc.cell? ⟨gb174, 2, none⟩ = some (.string a0_2) := (blk_cell BK174.out 2).trans rfl
                    have hfz33_0 := blk_frozen BK174.out 0
                    have hfz33_1 := blk_frozen BK174.out 1
                    have hfz33_2 := blk_frozen BK174.out 2
                    have hcz34_0 : wc.cell? ⟨gb175, 0, none⟩ = some (.int .i64 a1_0) := (blk_cell BK175.out 0).trans rfl
                    have hcz34_1 : wc.cell? ⟨gb175, 1, none⟩ = some (.int .u64 a1_1) := (blk_cell BK175.out 1).trans rfl
                    have hcz34_2 : wc.cell? ⟨gb175, 2, none⟩ = some (.string a1_2) := (blk_cell BK175.out 2).trans rfl
                    have hfz34_0 := blk_frozen BK175.out 0
                    have hfz34_1 := blk_frozen BK175.out 1
                    have hfz34_2 := blk_frozen BK175.out 2
                    go_wp2
                    go_meet
                    case rel => exact ⟨_, (false), (by first | rfl | (simp; done) | (simp [*]; done)), H', ⟨by have := HJ2.out; have := HJ14.out; first | omega | exact Nat.le_refl _⟩, ⟨by (with_reducible repeat (first | refine blk_drewN ?_ _ | refine blk_drew ?_ | refine blk_alloc ?_ _)); exact BK174.out⟩, ⟨by (with_reducible repeat (first | refine blk_drewN ?_ _ | refine blk_drew ?_ | refine blk_alloc ?_ _)); exact BK175.out⟩, ⟨by repeat (first | (with_reducible first | exact HB.out | apply below_alloc | apply pw_below_drewN | apply below_drew1 | refine below_set ?_ GE174.out | refine below_set ?_ GE175.out) | exact HB.out)⟩⟩
              · rw [if_neg c22] at H
                have c22b0 : (a0_0 == a1_0) = false := beq_eq_false_iff_ne.mpr c22
                have c22b1 : (a0_0 != a1_0) = true := bne_iff_ne.mpr c22
                have H' := Aside0.mk H
                clear H
                have hnb35 := NB174_175.out
                have hnc35 := NB175_174.out
                have hcz36_0 : wc.cell? ⟨gb174, 0, none⟩ = some (.int .i64 a0_0) := (blk_cell BK174.out 0).trans rfl
                have hcz36_1 : wc.cell? ⟨gb174, 1, none⟩ = some (.int .u64 a0_1) := (blk_cell BK174.out 1).trans rfl
                have hcz36_2 : wc.cell? ⟨gb174, 2, none⟩ = some (.string a0_2) := (blk_cell BK174.out 2).trans rfl
                have hfz36_0 := blk_frozen BK174.out 0
                have hfz36_1 := blk_frozen BK174.out 1
                have hfz36_2 := blk_frozen BK174.out 2
                have hcz37_0 : wc.cell? ⟨gb175, 0, none⟩ = some (.int .i64 a1_0) := (blk_cell BK175.out 0).trans rfl
                have hcz37_1 : wc.cell? ⟨gb175, 1, none⟩ = some (.int .u64 a1_1) := (blk_cell BK175.out 1).trans rfl
                have hcz37_2 : wc.cell? ⟨gb175, 2, none⟩ = some (.string a1_2) := (blk_cell BK175.out 2).trans rfl
                have hfz37_0 := blk_frozen BK175.out 0
                have hfz37_1 := blk_frozen BK175.out 1
                have hfz37_2 := blk_frozen BK175.out 2
                go_wp2
                go_meet
                case rel => exact ⟨_, (false), (by first | rfl | (simp; done) | (simp [*]; done)), H', ⟨by have := HJ2.out; have := HJ14.out; first | omega | exact Nat.le_refl _⟩, ⟨by (with_reducible repeat (first | refine blk_drewN ?_ _ | refine blk_drew ?_ | refine blk_alloc ?_ _)); exact BK174.out⟩, ⟨by (with_reducible repeat (first | refine blk_drewN ?_ _ | refine blk_drew ?_ | refine blk_alloc ?_ _)); exact BK175.out⟩, ⟨by repeat (first | (with_reducible first | exact HB.out | apply below_alloc | apply pw_below_drewN | apply below_drew1 | refine below_set ?_ GE174.out | refine below_set ?_ GE175.out) | exact HB.out)⟩⟩
          case rest =>
            clear HC17
            try clear c1
            try clear c2
            try clear p2
            try clear c3
            try clear c6
            try clear c9
            try clear c9b0
            try clear c9b1
            try clear c10
            try clear c13
            try clear c16
            try clear c18
            try clear c18b0
            try clear c19
            try clear c22
            try clear c22b0
            try clear c22b1
            try clear c23
            try clear c23b0
            try clear c24
            try clear c27
            try clear c27b0
            try clear c27b1
            try clear c29
            try clear c32
            try clear c35
            try clear hcz11_0
            try clear hcz11_1
            try clear hcz11_2
            try clear hcz12_0
            try clear hcz12_1
            try clear hcz12_2
            try clear hcz14_0
            try clear hcz14_1
            try clear hcz14_2
            try clear hcz20_0
            try clear hcz20_1
            try clear hcz20_2
            try clear hcz21_0
            try clear hcz21_1
            try clear hcz21_2
            try clear hcz25_0
            try clear hcz25_1
            try clear hcz25_2
            try clear hcz26_0
            try clear hcz26_1
            try clear hcz26_2
            try clear hcz30_0
            try clear hcz30_1
            try clear hcz30_2
            try clear hcz31_0
            try clear hcz31_1
            try clear hcz31_2
            try clear hcz33_0
            try clear hcz33_1
            try clear hcz33_2
            try clear hcz34_0
            try clear hcz34_1
            try clear hcz34_2
            try clear hcz36_0
            try clear hcz36_1
            try clear hcz36_2
            try clear hcz37_0
            try clear hcz37_1
            try clear hcz37_2
            try clear hcz7_0
            try clear hcz7_1
            try clear hcz7_2
            try clear hcz8_0
            try clear hcz8_1
            try clear hcz8_2
            try clear hfz11_0
            try clear hfz11_1
            try clear hfz11_2
            try clear hfz12_0
            try clear hfz12_1
            try clear hfz12_2
            try clear hfz14_0
            try clear hfz14_1
            try clear hfz14_2
            try clear hfz20_0
            try clear hfz20_1
            try clear hfz20_2
            try clear hfz21_0
            try clear hfz21_1
            try clear hfz21_2
            try clear hfz25_0
            try clear hfz25_1
            try clear hfz25_2
            try clear hfz26_0
            try clear hfz26_1
            try clear hfz26_2
            try clear hfz30_0
            try clear hfz30_1
            try clear hfz30_2
            try clear hfz31_0
            try clear hfz31_1
            try clear hfz31_2
            try clear hfz33_0
            try clear hfz33_1
            try clear hfz33_2
            try clear hfz34_0
            try clear hfz34_1
            try clear hfz34_2
            try clear hfz36_0
            try clear hfz36_1
            try clear hfz36_2
            try clear hfz37_0
            try clear hfz37_1
            try clear hfz37_2
            try clear hfz7_0
            try clear hfz7_1
            try clear hfz7_2
            try clear hfz8_0
            try clear hfz8_1
            try clear hfz8_2
            try clear p2
            obtain ⟨kq, x51_16, rfl, HA, HJ16, BK174, BK175, HB⟩ := hcut
            cases kq with
            | zero => exact absurd HA.out (by simp [stratumref04_Order.j2])
            | succ kj16 =>
              have H := HA.out
              clear HA
              simp only [stratumref04_Order.j2] at H
              by_cases c38 : x51_16 = true
              · subst c38
                have H1 : (some (-1)) = some r := by rw [if_pos rfl] at H; exact H
                clear H
                have H := H1
                clear H1
                obtain rfl := Option.some.inj H
                go_wp2
                go_ret
                exact ⟨by first | rfl | (simp [errW_none, errW_some] <;> rfl) | (simp [*, errW_none, errW_some] <;> rfl), by repeat (first | (with_reducible first | exact HB.out | apply below_alloc | apply pw_below_drewN | apply below_drew1 | refine below_set ?_ GE174.out | refine below_set ?_ GE175.out) | exact HB.out)⟩
              · replace c38 := Bool.eq_false_iff.mpr c38
                subst c38
                have H1 : (if (a0_0 == a1_0 && (a0_1 == a1_1 && (a0_2.toList == a1_2.toList))) = true then (some 0) else (some 1)) = some r := by rw [if_neg (show ¬ (false = true) by decide)] at H; exact H
                clear H
                have H := H1
                clear H1
                by_cases c39 : (a0_0 == a1_0 && (a0_1 == a1_1 && (a0_2.toList == a1_2.toList))) = true
                · rw [if_pos c39] at H
                  have c39b0 : (a0_0 == a1_0 && (a0_1 == a1_1 && (a0_2.toList == a1_2.toList))) = true := c39
                  (try (have c39b1 : decide (a0_0 = a1_0 && (a0_1 == a1_1 && (a0_2.toList == a1_2.toList))) = true := by simpa using c39))
                  (try (have c39b2 : (a0_0 == a1_0 && (a0_1 == a1_1 && (a0_2.toList == a1_2.toList))) = true := by simpa using c39))
                  clear c39
                  obtain rfl := Option.some.inj H
                  have hnb40 := NB174_175.out
                  have hnc40 := NB175_174.out
                  have hcz41_0 : wc.cell? ⟨gb174, 0, none⟩ = some (.int .i64 a0_0) := (blk_cell BK174.out 0).trans rfl
                  have hcz41_1 : wc.cell? ⟨gb174, 1, none⟩ = some (.int .u64 a0_1) := (blk_cell BK174.out 1).trans rfl
                  have hcz41_2 : wc.cell? ⟨gb174, 2, none⟩ = some (.string a0_2) := (blk_cell BK174.out 2).trans rfl
                  have hfz41_0 := blk_frozen BK174.out 0
                  have hfz41_1 := blk_frozen BK174.out 1
                  have hfz41_2 := blk_frozen BK174.out 2
                  have hcz42_0 : wc.cell? ⟨gb175, 0, none⟩ = some (.int .i64 a1_0) := (blk_cell BK175.out 0).trans rfl
                  have hcz42_1 : wc.cell? ⟨gb175, 1, none⟩ = some (.int .u64 a1_1) := (blk_cell BK175.out 1).trans rfl
                  have hcz42_2 : wc.cell? ⟨gb175, 2, none⟩ = some (.string a1_2) := (blk_cell BK175.out 2).trans rfl
                  have hfz42_0 := blk_frozen BK175.out 0
                  have hfz42_1 := blk_frozen BK175.out 1
                  have hfz42_2 := blk_frozen BK175.out 2
                  go_wp2
                  go_ret
                  exact ⟨by first | rfl | (simp [errW_none, errW_some] <;> rfl) | (simp [*, errW_none, errW_some] <;> rfl), by repeat (first | (with_reducible first | exact HB.out | apply below_alloc | apply pw_below_drewN | apply below_drew1 | refine below_set ?_ GE174.out | refine below_set ?_ GE175.out) | exact HB.out)⟩
                · rw [if_neg c39] at H
                  have c39b0 : (a0_0 == a1_0 && (a0_1 == a1_1 && (a0_2.toList == a1_2.toList))) = false := by simpa using c39
                  (try (have c39b1 : decide (a0_0 = a1_0 && (a0_1 == a1_1 && (a0_2.toList == a1_2.toList))) = false := by simpa using c39))
                  (try (have c39b2 : (a0_0 == a1_0 && (a0_1 == a1_1 && (a0_2.toList == a1_2.toList))) = false := by simpa using c39))
                  (try (have c39b3 : ¬ (a0_0 = a1_0 && (a0_1 == a1_1 && (a0_2.toList == a1_2.toList))) := by simpa using c39))
                  clear c39
                  obtain rfl := Option.some.inj H
                  have hnb43 := NB174_175.out
                  have hnc43 := NB175_174.out
                  have hcz44_0 : wc.cell? ⟨gb174, 0, none⟩ = some (.int .i64 a0_0) := (blk_cell BK174.out 0).trans rfl
                  have hcz44_1 : wc.cell? ⟨gb174, 1, none⟩ = some (.int .u64 a0_1) := (blk_cell BK174.out 1).trans rfl
                  have hcz44_2 : wc.cell? ⟨gb174, 2, none⟩ = some (.string a0_2) := (blk_cell BK174.out 2).trans rfl
                  have hfz44_0 := blk_frozen BK174.out 0
                  have hfz44_1 := blk_frozen BK174.out 1
                  have hfz44_2 := blk_frozen BK174.out 2
                  have hcz45_0 : wc.cell? ⟨gb175, 0, none⟩ = some (.int .i64 a1_0) := (blk_cell BK175.out 0).trans rfl
                  have hcz45_1 : wc.cell? ⟨gb175, 1, none⟩ = some (.int .u64 a1_1) := (blk_cell BK175.out 1).trans rfl
                  have hcz45_2 : wc.cell? ⟨gb175, 2, none⟩ = some (.string a1_2) := (blk_cell BK175.out 2).trans rfl
                  have hfz45_0 := blk_frozen BK175.out 0
                  have hfz45_1 := blk_frozen BK175.out 1
                  have hfz45_2 := blk_frozen BK175.out 2
                  go_wp2
                  go_ret
                  exact ⟨by first | rfl | (simp [errW_none, errW_some] <;> rfl) | (simp [*, errW_none, errW_some] <;> rfl), by repeat (first | (with_reducible first | exact HB.out | apply below_alloc | apply pw_below_drewN | apply below_drew1 | refine below_set ?_ GE174.out | refine below_set ?_ GE175.out) | exact HB.out)⟩

end Go.Proofs.Ytepkmbbeaaljlaa.X
