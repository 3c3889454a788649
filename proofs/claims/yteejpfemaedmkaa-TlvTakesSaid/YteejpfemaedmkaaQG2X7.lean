-- Written by wip/printx.py: the kit's printer with functions proved by hand. Not trusted: Lean checks it.
import Derived.Test.YteejpfemaedmkaaQG2X0
import Derived.Test.YteejpfemaedmkaaQG2X5
import Derived.Test.YteejpfemaedmkaaQG2X6
namespace Go.Proofs.Yteejpfemaedmkaa.X
open Go.RowKit Go.Proofs.YteejpfemaedmkaaW.PrintWords Go.Proofs.YteejpfemaedmkaaW.PrintLast Go.Proofs.YteejpfemaedmkaaW.PrintMore
attribute [local go_sem] max2_int min2_int max_two min_two max_three min_three max_four min_four
set_option linter.unusedVariables false
set_option linter.unusedSimpArgs false
attribute [local go_sem] vx_gtr vx_leq vx_geq
mutual
def tlv_measure.l0 : Nat → List (S53) → Int → List (S53) → Int → Int → Option (Int × Int × Int)
 | 0, _, _, _, _, _ => none
 | k + 1, x0, x5, x9, x10, x11 => if x11 < x10 then (if 0 ≤ x11 then (if x11 < (x9.length : Int) then (if ((rd_T53 x9 x11).f0) < 1 then (tlv_measure.j1 k x0 x5 x11 x9 x10 x11 true ((rd_T53 x9 x11).f0) ((rd_T53 x9 x11).f1.f0) ((rd_T53 x9 x11).f1.f1) ((rd_T53 x9 x11).f1.f2)) else (if ((rd_T53 x9 x11).f0) > 65535 then (tlv_measure.j1 k x0 x5 x11 x9 x10 x11 true ((rd_T53 x9 x11).f0) ((rd_T53 x9 x11).f1.f0) ((rd_T53 x9 x11).f1.f1) ((rd_T53 x9 x11).f1.f2)) else (if x11 > 0 then (if 0 ≤ (wrap64 (x11 - 1)) then (if (wrap64 (x11 - 1)) < (x0.length : Int) then (if ((rd_T53 x9 x11).f0) ≤ ((rd_T53 x0 (wrap64 (x11 - 1))).f0) then (tlv_measure.j1 k x0 x5 x11 x9 x10 x11 true ((rd_T53 x9 x11).f0) ((rd_T53 x9 x11).f1.f0) ((rd_T53 x9 x11).f1.f1) ((rd_T53 x9 x11).f1.f2)) else ((kind_Valid.f k ((rd_T53 x9 x11).f1.f0) ((rd_T53 x9 x11).f1.f1) ((rd_T53 x9 x11).f1.f2)).bind fun t131 => (tlv_measure.j1 k x0 x5 x11 x9 x10 x11 (!t131) ((rd_T53 x9 x11).f0) ((rd_T53 x9 x11).f1.f0) ((rd_T53 x9 x11).f1.f1) ((rd_T53 x9 x11).f1.f2)))) else (none)) else (none)) else ((kind_Valid.f k ((rd_T53 x9 x11).f1.f0) ((rd_T53 x9 x11).f1.f1) ((rd_T53 x9 x11).f1.f2)).bind fun t132 => (tlv_measure.j1 k x0 x5 x11 x9 x10 x11 (!t132) ((rd_T53 x9 x11).f0) ((rd_T53 x9 x11).f1.f0) ((rd_T53 x9 x11).f1.f1) ((rd_T53 x9 x11).f1.f2)))))) else (none)) else (none)) else (if x5 > 16777215 then (some (0, 0, 2)) else (some (x5, 0, 0)))
def tlv_measure.j1 : Nat → List (S53) → Int → Int → List (S53) → Int → Int → Bool → Int → Int → Int → ByteArray → Option (Int × Int × Int)
 | 0, _, _, _, _, _, _, _, _, _, _, _ => none
 | k + 1, x0, x5, x6, x9, x10, x11, x44, x130000, x130001, x130002, x130003 => if x44 = true then (some (0, x6, 1)) else ((tlv_length.f k x130001 x130002 x130003).bind fun t133 => ((tlv_key.f x130000 x130001 x130002 x130003).bind fun t134 => ((varint_Size.f k t134).bind fun t135 => ((varint_Size.f k (IntKind.u64.wrap (t133))).bind fun t136 => (tlv_measure.l0 k x0 (wrap64 (x5 + (wrap64 ((wrap64 (t135 + t136)) + t133)))) x9 x10 (wrap64 (x11 + 1)))))))
end
def tlv_measure.f (k : Nat) (l0 : List (S53)) : Option (Int × Int × Int) := tlv_measure.l0 k l0 0 l0 (l0.length : Int) 0
theorem tlv_measure.mono_l : ∀ k, (∀ y0 y1 y2 y3 y4, LeO (tlv_measure.l0 k y0 y1 y2 y3 y4) (tlv_measure.l0 (k + 1) y0 y1 y2 y3 y4)) ∧ (∀ y0 y1 y2 y3 y4 y5 y6 y7 y8 y9 y10, LeO (tlv_measure.j1 k y0 y1 y2 y3 y4 y5 y6 y7 y8 y9 y10) (tlv_measure.j1 (k + 1) y0 y1 y2 y3 y4 y5 y6 y7 y8 y9 y10))
 | 0 => ⟨fun _ _ _ _ _ r h => by simp [tlv_measure.l0] at h, fun _ _ _ _ _ _ _ _ _ _ _ r h => by simp [tlv_measure.j1] at h⟩
 | k + 1 => by
  obtain ⟨ih0, ih1⟩ := tlv_measure.mono_l k
  refine ⟨?_, ?_⟩
  ·intro y0 y1 y2 y3 y4
   unfold tlv_measure.l0
   repeat' first
   | (with_reducible exact ih0 _ _ _ _ _)
   | (with_reducible exact ih1 _ _ _ _ _ _ _ _ _ _ _)
   | (with_reducible exact kind_Valid.mono _ _ _ _)
   | (with_reducible exact tlv_length.mono _ _ _ _)
   | (with_reducible exact varint_Size.mono _ _)
   | (with_reducible exact LeO.refl _)
   | (with_reducible exact LeO.none _)
   | (with_reducible refine LeO.ite ?_ ?_)
   | (with_reducible refine LeO.bind ?_ (fun _ => ?_))
   | exact ih0 _ _ _ _ _
   | exact ih1 _ _ _ _ _ _ _ _ _ _ _
   | exact kind_Valid.mono _ _ _ _
   | exact tlv_length.mono _ _ _ _
   | exact varint_Size.mono _ _
   | exact LeO.none _
   | refine LeO.ite ?_ ?_
   | refine LeO.bind ?_ (fun _ => ?_)
  ·intro y0 y1 y2 y3 y4 y5 y6 y7 y8 y9 y10
   unfold tlv_measure.j1
   repeat' first
   | (with_reducible exact ih0 _ _ _ _ _)
   | (with_reducible exact ih1 _ _ _ _ _ _ _ _ _ _ _)
   | (with_reducible exact kind_Valid.mono _ _ _ _)
   | (with_reducible exact tlv_length.mono _ _ _ _)
   | (with_reducible exact varint_Size.mono _ _)
   | (with_reducible exact LeO.refl _)
   | (with_reducible exact LeO.none _)
   | (with_reducible refine LeO.ite ?_ ?_)
   | (with_reducible refine LeO.bind ?_ (fun _ => ?_))
   | exact ih0 _ _ _ _ _
   | exact ih1 _ _ _ _ _ _ _ _ _ _ _
   | exact kind_Valid.mono _ _ _ _
   | exact tlv_length.mono _ _ _ _
   | exact varint_Size.mono _ _
   | exact LeO.none _
   | refine LeO.ite ?_ ?_
   | refine LeO.bind ?_ (fun _ => ?_)
theorem tlv_measure.mono : ∀ a0 k, LeO (tlv_measure.f k a0) (tlv_measure.f (k + 1) a0) := by
 intro a0 k
 obtain ⟨ih0, ih1⟩ := tlv_measure.mono_l k
 unfold tlv_measure.f
 repeat' first
   | (with_reducible exact ih0 _ _ _ _ _)
   | (with_reducible exact ih1 _ _ _ _ _ _ _ _ _ _ _)
   | (with_reducible exact kind_Valid.mono _ _ _ _)
   | (with_reducible exact tlv_length.mono _ _ _ _)
   | (with_reducible exact varint_Size.mono _ _)
   | (with_reducible exact LeO.refl _)
   | (with_reducible exact LeO.none _)
   | (with_reducible refine LeO.ite ?_ ?_)
   | (with_reducible refine LeO.bind ?_ (fun _ => ?_))
   | exact ih0 _ _ _ _ _
   | exact ih1 _ _ _ _ _ _ _ _ _ _ _
   | exact kind_Valid.mono _ _ _ _
   | exact tlv_length.mono _ _ _ _
   | exact varint_Size.mono _ _
   | exact LeO.none _
   | refine LeO.ite ?_ ?_
   | refine LeO.bind ?_ (fun _ => ?_)
def tlv_measure.T5 : Bool × List (List Nat × List Nat) := (true, [([], []), ([0], [0]), ([1], [1]), ([2], [2]), ([3], [3]), ([4, 3], [3, 4]), ([5, 3], [3, 5]), ([3, 6], [3, 6]), ([7, 3], [7]), ([8], [8]), ([9, 8], [8, 9]), ([10, 8, 8], [8, 10]), ([11], [11]), ([12, 11], [11, 12]), ([11], [11]), ([11], [11]), ([15, 11], [11, 15]), ([14, 16, 11], [11, 14, 16]), ([17, 11], [11, 17]), ([18, 11], [11, 18]), ([13, 19, 11], [11, 13, 19]), ([11, 20, 8], [8, 11, 20]), ([8, 21], [8, 21]), ([22, 11], [22]), ([23], [23]), ([24, 23], [23, 24]), ([25, 23, 23], [23, 25]), ([26, 23], [23, 26]), ([23, 27], [23, 27])])
def tlv_measure.B5 : List Nat := [0, 1, 3, 7, 15, 31, 63, 127, 255, 511, 1023, 2047, 4095, 8191, 4095, 4095, 36863, 118783, 249855, 511999, 1048575, 2097151, 4194303, 8388607, 16777215, 33554431, 67108863, 134217727, 268435455]
theorem tlv_measure.tab5 : rtab .any (opsOf Try.f59 5) = tlv_measure.T5 := by kernel_rfl
theorem tlv_measure.bits5 : waitsOk tlv_measure.T5.2 tlv_measure.B5 = true := by kernel_rfl
set_option maxHeartbeats 8000000 in
set_option maxRecDepth 100000 in
theorem tlv_measure.calls (k : Nat) (A0 : Option Addr) (c0 : Nat) (l0 : List (S53)) (r1 : Int) (r2 : Int) (r3 : Int) (w : World) (hr0 : Kd.C k53 w A0 l0.length l0) (hc0 : l0.length ≤ c0) (h : tlv_measure.f k l0 = some (r1, r2, r3)) :
  Calls Try.prog 59 #[.slice A0 l0.length c0] w fun e w' => e = .returned (.tuple #[.int .i64 r1, .int .i64 r2, .int .i64 r3]) ∧ Below w.heap.size w w' := by
 have hu53 := Try.underlying53
 have hu51 := Try.underlying51
 have HR0 := Aside0.mk hr0
 have HC0 := Aside0.mk hc0
 clear hr0 hc0
 have HB := Aside0.mk (Below.refl w.heap.size w)
 have H : (tlv_measure.l0 k l0 0 l0 (l0.length : Int) 0) = some (r1, r2, r3) := h
 clear h
 have H' := Aside0.mk H
 clear H
 go_enter Try.func59, Try.ntmps59
 go_wp2
 go_loopg [5, 11] k (fun kq v5 v11 w' => ∃ (x5_1 : Int) (x11_1 : Int), v5 = .int .i64 x5_1 ∧ v11 = .int .i64 x11_1 ∧ Aside0 (tlv_measure.l0 kq l0 x5_1 l0 (l0.length : Int) x11_1 = some (r1, r2, r3)) ∧ Aside0 (kq ≤ k) ∧ Aside0 (Below w.heap.size w w'))
 case atStart => exact ⟨(0), (0), (by first | rfl | (simp; done) | (simp [*]; done)), (by first | rfl | (simp; done) | (simp [*]; done)), H', ⟨Nat.le_refl _⟩, ⟨by repeat (first | (with_reducible first | exact HB.out | apply below_alloc | apply pw_below_drewN | apply below_drew1) | exact HB.out)⟩⟩
 case round =>
  clear H'
  obtain ⟨x5_1, x11_1, rfl, rfl, HA, HK1, HB⟩ := hrel
  cases gk with
  | zero => exact absurd HA.out (by simp [tlv_measure.l0])
  | succ k1 =>
   have H := HA.out
   clear HA
   simp only [tlv_measure.l0] at H
   by_cases c2 : x11_1 < (l0.length : Int)
   ·rw [if_pos c2] at H
    have c2b0 : decide (x11_1 < (l0.length : Int)) = true := decide_eq_true c2
    clear c2
    by_cases c3 : 0 ≤ x11_1
    ·rw [if_pos c3] at H
     have c3b0 : decide (0 ≤ x11_1) = true := decide_eq_true c3
     clear c3
     by_cases c4 : x11_1 < (l0.length : Int)
     ·rw [if_pos c4] at H
      have c4b0 : decide (x11_1 < (l0.length : Int)) = true := decide_eq_true c4
      clear c4
      have HC5 := Aside0.mk H
      clear H
      have p128 : 0 ≤ (x11_1 : Int) := of_decide_eq_true (by first | (with_reducible assumption) | assumption)
      have q128 : x11_1 < (l0.length : Int) := of_decide_eq_true (by first | (with_reducible assumption) | assumption)
      obtain ⟨ad128, e128, hx128_0, hx128_1, hx128_2, hx128_3⟩ := at_T53 HR0.out x11_1 p128 q128
      cases e128
      replace hx128_0 := (HB.out.cell (World.block_lt_of_cell? w _ hx128_0)).trans hx128_0
      replace hx128_1 := (HB.out.cell (World.block_lt_of_cell? w _ hx128_1)).trans hx128_1
      replace hx128_2 := (HB.out.cell (World.block_lt_of_cell? w _ hx128_2)).trans hx128_2
      replace hx128_3 := (HB.out.cell (World.block_lt_of_cell? w _ hx128_3)).trans hx128_3
      replace p128 := eq_true p128
      replace q128 := eq_true q128
      go_upto_region 5 with (first | ((with_reducible refine gate_dst (N := 7) rfl ?_); refine box_event ?hg (N := 7) ?hd (cs := #[.int .i64 0, .int .i64 0, .int .u64 0, .string (⟨#[]⟩ : ByteArray)]) (t := 53) ?hr ?_; (case hd => rfl); (case hg => rfl); (case hr => first | (go_simp; done) | (go_simp; rfl)); intro gb129 hg w6 hbox hb; have n0_ := Aside0.mk (below_step (by repeat (first | (with_reducible first | exact HB.out | apply below_alloc | apply pw_below_drewN | apply below_drew1) | exact HB.out)) hb); have n1_ := Aside0.mk (hbox); have n2_ := Aside0.mk ((by rw [hg]; exact (below_size (by repeat (first | (with_reducible first | exact HB.out | apply below_alloc | apply pw_below_drewN | apply below_drew1) | exact HB.out))) : w.heap.size ≤ gb129)); have n3_ := Aside0.mk ((by rw [hg]; exact (below_size (by repeat (first | (with_reducible first | exact HB.out | apply below_alloc | apply pw_below_drewN | apply below_drew1) | exact HB.out))) : w.heap.size ≤ gb129)); clear HB; have HB := n0_; have BK129 := n1_; have GW129 := n2_; have GE129 := n3_; clear n0_ n1_ n2_ n3_; clear hb hbox hg; have hcz7_0 : w6.cell? ⟨gb129, 0, none⟩ = some (.int .i64 0) := (blk_cell BK129.out 0).trans rfl; have hcz7_1 : w6.cell? ⟨gb129, 1, none⟩ = some (.int .i64 0) := (blk_cell BK129.out 1).trans rfl; have hcz7_2 : w6.cell? ⟨gb129, 2, none⟩ = some (.int .u64 0) := (blk_cell BK129.out 2).trans rfl; have hcz7_3 : w6.cell? ⟨gb129, 3, none⟩ = some (.string (⟨#[]⟩ : ByteArray)) := (blk_cell BK129.out 3).trans rfl; have hfz7_0 := blk_frozen BK129.out 0; have hfz7_1 := blk_frozen BK129.out 1; have hfz7_2 := blk_frozen BK129.out 2; have hfz7_3 := blk_frozen BK129.out 3))
      (try simp only [Act.put, List.setIfInBounds_toArray, List.set_cons_zero, List.set_cons_succ])
      go_cut [44] (fun v44 wc => ∃ (kq : Nat) (x44_4 : Bool), v44 = .bool x44_4 ∧ Aside0 (tlv_measure.j1 kq l0 x5_1 x11_1 l0 (l0.length : Int) x11_1 x44_4 ((rd_T53 l0 x11_1).f0) ((rd_T53 l0 x11_1).f1.f0) ((rd_T53 l0 x11_1).f1.f1) ((rd_T53 l0 x11_1).f1.f2) = some (r1, r2, r3)) ∧ Aside0 (kq ≤ k1) ∧ Aside0 (wc.heap[gb129]? = some (.cells #[.int .i64 ((rd_T53 l0 x11_1).f0), .int .i64 ((rd_T53 l0 x11_1).f1.f0), .int .u64 ((rd_T53 l0 x11_1).f1.f1), .string ((rd_T53 l0 x11_1).f1.f2)] 53 (0, 0))) ∧ Aside0 (Below w.heap.size w wc))
      case first =>
       have H := HC5.out
       clear HC5
       by_cases c8 : ((rd_T53 l0 x11_1).f0) < 1
       ·rw [if_pos c8] at H
        have c8b0 : decide (((rd_T53 l0 x11_1).f0) < 1) = true := decide_eq_true c8
        clear c8
        (first | rw [c8b0] | (simp only [i64_w, i32_w]; rw [c8b0]) | skip)
        have H' := Aside0.mk H
        clear H
        try go_wp2
        have n0_ : Aside0 (((((w6.setCell ⟨gb129, 0, none⟩ (.int .i64 ((rd_T53 l0 x11_1).f0))).setCell ⟨gb129, 1, none⟩ (.int .i64 ((rd_T53 l0 x11_1).f1.f0))).setCell ⟨gb129, 2, none⟩ (.int .u64 ((rd_T53 l0 x11_1).f1.f1))).setCell ⟨gb129, 3, none⟩ (.string ((rd_T53 l0 x11_1).f1.f2))).heap[gb129]? = some (.cells #[.int .i64 ((rd_T53 l0 x11_1).f0), .int .i64 ((rd_T53 l0 x11_1).f1.f0), .int .u64 ((rd_T53 l0 x11_1).f1.f1), .string ((rd_T53 l0 x11_1).f1.f2)] 53 (0, 0))) := ⟨by (with_reducible repeat (first | refine blk_drewN ?_ _ | refine blk_drew ?_ | refine blk_alloc ?_ _)); refine blk_put (cs := #[.int .i64 ((rd_T53 l0 x11_1).f0), .int .i64 ((rd_T53 l0 x11_1).f1.f0), .int .u64 ((rd_T53 l0 x11_1).f1.f1), .string (⟨#[]⟩ : ByteArray)]) ?_ 3 _ rfl; (with_reducible repeat (first | refine blk_drewN ?_ _ | refine blk_drew ?_ | refine blk_alloc ?_ _)); refine blk_put (cs := #[.int .i64 ((rd_T53 l0 x11_1).f0), .int .i64 ((rd_T53 l0 x11_1).f1.f0), .int .u64 0, .string (⟨#[]⟩ : ByteArray)]) ?_ 2 _ rfl; (with_reducible repeat (first | refine blk_drewN ?_ _ | refine blk_drew ?_ | refine blk_alloc ?_ _)); refine blk_put (cs := #[.int .i64 ((rd_T53 l0 x11_1).f0), .int .i64 0, .int .u64 0, .string (⟨#[]⟩ : ByteArray)]) ?_ 1 _ rfl; (with_reducible repeat (first | refine blk_drewN ?_ _ | refine blk_drew ?_ | refine blk_alloc ?_ _)); refine blk_put (cs := #[.int .i64 0, .int .i64 0, .int .u64 0, .string (⟨#[]⟩ : ByteArray)]) ?_ 0 _ rfl; (with_reducible repeat (first | refine blk_drewN ?_ _ | refine blk_drew ?_ | refine blk_alloc ?_ _)); exact BK129.out⟩
        have n1_ : Aside0 (Below w.heap.size w ((((w6.setCell ⟨gb129, 0, none⟩ (.int .i64 ((rd_T53 l0 x11_1).f0))).setCell ⟨gb129, 1, none⟩ (.int .i64 ((rd_T53 l0 x11_1).f1.f0))).setCell ⟨gb129, 2, none⟩ (.int .u64 ((rd_T53 l0 x11_1).f1.f1))).setCell ⟨gb129, 3, none⟩ (.string ((rd_T53 l0 x11_1).f1.f2)))) := ⟨by repeat (first | (with_reducible first | exact HB.out | apply below_alloc | apply pw_below_drewN | apply below_drew1 | refine below_set ?_ GE129.out) | exact HB.out)⟩
        (try clear BK129)
        (try clear HB)
        (try simp only [show ∀ (w_ : World) (n_ : Nat) (p_ : Addr) (u_ : Value), (w_.drewN n_).setCell p_ u_ = (w_.setCell p_ u_).drewN n_ from fun _ _ _ _ => rfl])
        generalize ((((w6.setCell ⟨gb129, 0, none⟩ (.int .i64 ((rd_T53 l0 x11_1).f0))).setCell ⟨gb129, 1, none⟩ (.int .i64 ((rd_T53 l0 x11_1).f1.f0))).setCell ⟨gb129, 2, none⟩ (.int .u64 ((rd_T53 l0 x11_1).f1.f1))).setCell ⟨gb129, 3, none⟩ (.string ((rd_T53 l0 x11_1).f1.f2))) = w9 at n0_ n1_ ⊢
        have BK129 := n0_
        have HB := n1_
        clear n0_ n1_
        have n0_ := Aside0.mk (blk_drew BK129.out)
        have n1_ := Aside0.mk (below_drew1 HB.out)
        clear BK129
        clear HB
        have BK129 := n0_
        have HB := n1_
        clear n0_ n1_
        refine start_ (n := 29) (S := fun w' => w'.cell? ⟨gb129, 0, none⟩ = some (.int .i64 ((rd_T53 l0 x11_1).f0)) ∧ w'.cell? ⟨gb129, 1, none⟩ = some (.int .i64 ((rd_T53 l0 x11_1).f1.f0)) ∧ w'.cell? ⟨gb129, 2, none⟩ = some (.int .u64 ((rd_T53 l0 x11_1).f1.f1)) ∧ w'.cell? ⟨gb129, 3, none⟩ = some (.string ((rd_T53 l0 x11_1).f1.f2))) (ds := []) ⟨mk_ 29 0⟩ (by kernel_rfl) rfl rfl ⟨(blk_cell BK129.out 0).trans rfl, (blk_cell BK129.out 1).trans rfl, (blk_cell BK129.out 2).trans rfl, (blk_cell BK129.out 3).trans rfl⟩ (fun hHeld => ?_); refine with_tabW tlv_measure.tab5 tlv_measure.bits5 (fun HT_ HW_ => ?_)
        generalize w9.drew = w10 at BK129 HB hHeld ⊢
        refine pure_ (i := 0) (N := some 16) (v := ?_) (a' := ?_) ⟨mk_ 29 1⟩ rfl rfl (any_of HT_.out (by kernel_rfl)) (fun _ _ _ h => h) (Or.inl ⟨by rfl, ?_⟩) ?_ ?_
        rotate_left
        ·intro w'
         go_simp
         with_reducible rfl
        rotate_left
        ·simp only [Act.put, List.setIfInBounds_toArray, List.set_cons_zero, List.set_cons_succ, i64_w, i32_w]
         rfl
        refine take_ (i := 1) (N := some 17) (v := ?_) (a' := ?_) ⟨mk_ 29 3⟩ rfl rfl (take_ofW HT_.out HW_.out (by kernel_rfl)) (fun _ _ _ h => h) (Or.inl ⟨by rfl, ?_⟩) hHeld ?_ ?_
        rotate_left
        ·rintro w' ⟨s0, s1, s2, s3⟩
         go_simp
         with_reducible rfl
        rotate_left
        ·simp only [Act.put, List.setIfInBounds_toArray, List.set_cons_zero, List.set_cons_succ, i64_w, i32_w]
         rfl
        refine pure_ (i := 2) (N := some 18) (v := ?_) (a' := ?_) ⟨mk_ 29 7⟩ rfl rfl (any_of HT_.out (by kernel_rfl)) (fun _ _ _ h => h) (Or.inl ⟨by rfl, ?_⟩) ?_ ?_
        rotate_left
        ·intro w'
         go_simp
         with_reducible rfl
        rotate_left
        ·simp only [Act.put, List.setIfInBounds_toArray, List.set_cons_zero, List.set_cons_succ, i64_w, i32_w]
         rfl
        refine pure_ (i := 3) (N := some 19) (v := ?_) (a' := ?_) ⟨mk_ 29 15⟩ rfl rfl (any_of HT_.out (by kernel_rfl)) (fun _ _ _ h => h) (Or.inl ⟨by rfl, ?_⟩) ?_ ?_
        rotate_left
        ·intro w'
         go_simp
         with_reducible rfl
        rotate_left
        ·simp only [Act.put, List.setIfInBounds_toArray, List.set_cons_zero, List.set_cons_succ, i64_w, i32_w]
         rfl
        refine pure_ (i := 4) (N := some 20) (v := undef) (a' := ?_) ⟨mk_ 29 31⟩ rfl rfl (any_of HT_.out (by kernel_rfl)) (fun _ _ _ h => h) (Or.inr ⟨by rfl, rfl⟩) ?_ ?_
        rotate_left
        ·simp only [Act.put, List.setIfInBounds_toArray, List.set_cons_zero, List.set_cons_succ, i64_w, i32_w]
         rfl
        refine pure_ (i := 5) (N := some 21) (v := undef) (a' := ?_) ⟨mk_ 29 63⟩ rfl rfl (any_of HT_.out (by kernel_rfl)) (fun _ _ _ h => h) (Or.inr ⟨by rfl, rfl⟩) ?_ ?_
        rotate_left
        ·simp only [Act.put, List.setIfInBounds_toArray, List.set_cons_zero, List.set_cons_succ, i64_w, i32_w]
         rfl
        refine pure_ (i := 6) (N := some 22) (v := undef) (a' := ?_) ⟨mk_ 29 127⟩ rfl rfl (any_of HT_.out (by kernel_rfl)) (fun _ _ _ h => h) (Or.inr ⟨by rfl, rfl⟩) ?_ ?_
        rotate_left
        ·simp only [Act.put, List.setIfInBounds_toArray, List.set_cons_zero, List.set_cons_succ, i64_w, i32_w]
         rfl
        refine pure_ (i := 7) (N := some 23) (v := ?_) (a' := ?_) ⟨mk_ 29 255⟩ rfl rfl (any_of HT_.out (by kernel_rfl)) (fun _ _ _ h => h) (Or.inl ⟨by rfl, ?_⟩) ?_ ?_
        rotate_left
        ·intro w'
         go_simp
         with_reducible rfl
        rotate_left
        ·simp only [Act.put, List.setIfInBounds_toArray, List.set_cons_zero, List.set_cons_succ, i64_w, i32_w]
         rfl
        refine pure_ (i := 8) (N := some 24) (v := ?_) (a' := ?_) ⟨mk_ 29 511⟩ rfl rfl (any_of HT_.out (by kernel_rfl)) (fun _ _ _ h => h) (Or.inl ⟨by rfl, ?_⟩) ?_ ?_
        rotate_left
        ·intro w'
         go_simp
         with_reducible rfl
        rotate_left
        ·simp only [Act.put, List.setIfInBounds_toArray, List.set_cons_zero, List.set_cons_succ, i64_w, i32_w]
         rfl
        refine pure_ (i := 9) (N := some 25) (v := undef) (a' := ?_) ⟨mk_ 29 1023⟩ rfl rfl (any_of HT_.out (by kernel_rfl)) (fun _ _ _ h => h) (Or.inr ⟨by rfl, rfl⟩) ?_ ?_
        rotate_left
        ·simp only [Act.put, List.setIfInBounds_toArray, List.set_cons_zero, List.set_cons_succ, i64_w, i32_w]
         rfl
        refine pure_ (i := 10) (N := some 26) (v := undef) (a' := ?_) ⟨mk_ 29 2047⟩ rfl rfl (any_of HT_.out (by kernel_rfl)) (fun _ _ _ h => h) (Or.inr ⟨by rfl, rfl⟩) ?_ ?_
        rotate_left
        ·simp only [Act.put, List.setIfInBounds_toArray, List.set_cons_zero, List.set_cons_succ, i64_w, i32_w]
         rfl
        refine pure_ (i := 11) (N := some 27) (v := undef) (a' := ?_) ⟨mk_ 29 4095⟩ rfl rfl (any_of HT_.out (by kernel_rfl)) (fun _ _ _ h => h) (Or.inr ⟨by rfl, rfl⟩) ?_ ?_
        rotate_left
        ·simp only [Act.put, List.setIfInBounds_toArray, List.set_cons_zero, List.set_cons_succ, i64_w, i32_w]
         rfl
        refine pure_ (i := 12) (N := some 28) (v := undef) (a' := ?_) ⟨mk_ 29 8191⟩ rfl rfl (any_of HT_.out (by kernel_rfl)) (fun _ _ _ h => h) (Or.inr ⟨by rfl, rfl⟩) ?_ ?_
        rotate_left
        ·simp only [Act.put, List.setIfInBounds_toArray, List.set_cons_zero, List.set_cons_succ, i64_w, i32_w]
         rfl
        refine pure_ (i := 13) (N := some 29) (v := undef) (a' := ?_) ⟨mk_ 29 16383⟩ rfl rfl (any_of HT_.out (by kernel_rfl)) (fun _ _ _ h => h) (Or.inr ⟨by rfl, rfl⟩) ?_ ?_
        rotate_left
        ·simp only [Act.put, List.setIfInBounds_toArray, List.set_cons_zero, List.set_cons_succ, i64_w, i32_w]
         rfl
        refine pure_ (i := 14) (N := some 30) (v := undef) (a' := ?_) ⟨mk_ 29 32767⟩ rfl rfl (any_of HT_.out (by kernel_rfl)) (fun _ _ _ h => h) (Or.inr ⟨by rfl, rfl⟩) ?_ ?_
        rotate_left
        ·simp only [Act.put, List.setIfInBounds_toArray, List.set_cons_zero, List.set_cons_succ, i64_w, i32_w]
         rfl
        refine pure_ (i := 15) (N := some 31) (v := undef) (a' := ?_) ⟨mk_ 29 65535⟩ rfl rfl (any_of HT_.out (by kernel_rfl)) (fun _ _ _ h => h) (Or.inr ⟨by rfl, rfl⟩) ?_ ?_
        rotate_left
        ·simp only [Act.put, List.setIfInBounds_toArray, List.set_cons_zero, List.set_cons_succ, i64_w, i32_w]
         rfl
        refine pure_ (i := 16) (N := some 32) (v := undef) (a' := ?_) ⟨mk_ 29 131071⟩ rfl rfl (any_of HT_.out (by kernel_rfl)) (fun _ _ _ h => h) (Or.inr ⟨by rfl, rfl⟩) ?_ ?_
        rotate_left
        ·simp only [Act.put, List.setIfInBounds_toArray, List.set_cons_zero, List.set_cons_succ, i64_w, i32_w]
         rfl
        refine pure_ (i := 17) (N := some 33) (v := undef) (a' := ?_) ⟨mk_ 29 262143⟩ rfl rfl (any_of HT_.out (by kernel_rfl)) (fun _ _ _ h => h) (Or.inr ⟨by rfl, rfl⟩) ?_ ?_
        rotate_left
        ·simp only [Act.put, List.setIfInBounds_toArray, List.set_cons_zero, List.set_cons_succ, i64_w, i32_w]
         rfl
        refine pure_ (i := 18) (N := some 34) (v := undef) (a' := ?_) ⟨mk_ 29 524287⟩ rfl rfl (any_of HT_.out (by kernel_rfl)) (fun _ _ _ h => h) (Or.inr ⟨by rfl, rfl⟩) ?_ ?_
        rotate_left
        ·simp only [Act.put, List.setIfInBounds_toArray, List.set_cons_zero, List.set_cons_succ, i64_w, i32_w]
         rfl
        refine pure_ (i := 19) (N := some 35) (v := undef) (a' := ?_) ⟨mk_ 29 1048575⟩ rfl rfl (any_of HT_.out (by kernel_rfl)) (fun _ _ _ h => h) (Or.inr ⟨by rfl, rfl⟩) ?_ ?_
        rotate_left
        ·simp only [Act.put, List.setIfInBounds_toArray, List.set_cons_zero, List.set_cons_succ, i64_w, i32_w]
         rfl
        refine pure_ (i := 20) (N := some 36) (v := undef) (a' := ?_) ⟨mk_ 29 2097151⟩ rfl rfl (any_of HT_.out (by kernel_rfl)) (fun _ _ _ h => h) (Or.inr ⟨by rfl, rfl⟩) ?_ ?_
        rotate_left
        ·simp only [Act.put, List.setIfInBounds_toArray, List.set_cons_zero, List.set_cons_succ, i64_w, i32_w]
         rfl
        refine pure_ (i := 21) (N := some 37) (v := undef) (a' := ?_) ⟨mk_ 29 4194303⟩ rfl rfl (any_of HT_.out (by kernel_rfl)) (fun _ _ _ h => h) (Or.inr ⟨by rfl, rfl⟩) ?_ ?_
        rotate_left
        ·simp only [Act.put, List.setIfInBounds_toArray, List.set_cons_zero, List.set_cons_succ, i64_w, i32_w]
         rfl
        refine pure_ (i := 22) (N := some 38) (v := ?_) (a' := ?_) ⟨mk_ 29 8388607⟩ rfl rfl (any_of HT_.out (by kernel_rfl)) (fun _ _ _ h => h) (Or.inl ⟨by rfl, ?_⟩) ?_ ?_
        rotate_left
        ·intro w'
         go_simp
         with_reducible rfl
        rotate_left
        ·simp only [Act.put, List.setIfInBounds_toArray, List.set_cons_zero, List.set_cons_succ, i64_w, i32_w]
         rfl
        refine pure_ (i := 23) (N := some 39) (v := ?_) (a' := ?_) ⟨mk_ 29 16777215⟩ rfl rfl (any_of HT_.out (by kernel_rfl)) (fun _ _ _ h => h) (Or.inl ⟨by rfl, ?_⟩) ?_ ?_
        rotate_left
        ·intro w'
         go_simp
         with_reducible rfl
        rotate_left
        ·simp only [Act.put, List.setIfInBounds_toArray, List.set_cons_zero, List.set_cons_succ, i64_w, i32_w]
         rfl
        refine pure_ (i := 24) (N := some 40) (v := undef) (a' := ?_) ⟨mk_ 29 33554431⟩ rfl rfl (any_of HT_.out (by kernel_rfl)) (fun _ _ _ h => h) (Or.inr ⟨by rfl, rfl⟩) ?_ ?_
        rotate_left
        ·simp only [Act.put, List.setIfInBounds_toArray, List.set_cons_zero, List.set_cons_succ, i64_w, i32_w]
         rfl
        refine pure_ (i := 25) (N := some 41) (v := undef) (a' := ?_) ⟨mk_ 29 67108863⟩ rfl rfl (any_of HT_.out (by kernel_rfl)) (fun _ _ _ h => h) (Or.inr ⟨by rfl, rfl⟩) ?_ ?_
        rotate_left
        ·simp only [Act.put, List.setIfInBounds_toArray, List.set_cons_zero, List.set_cons_succ, i64_w, i32_w]
         rfl
        refine pure_ (i := 26) (N := some 42) (v := undef) (a' := ?_) ⟨mk_ 29 134217727⟩ rfl rfl (any_of HT_.out (by kernel_rfl)) (fun _ _ _ h => h) (Or.inr ⟨by rfl, rfl⟩) ?_ ?_
        rotate_left
        ·simp only [Act.put, List.setIfInBounds_toArray, List.set_cons_zero, List.set_cons_succ, i64_w, i32_w]
         rfl
        refine pure_ (i := 27) (N := some 43) (v := undef) (a' := ?_) ⟨mk_ 29 268435455⟩ rfl rfl (any_of HT_.out (by kernel_rfl)) (fun _ _ _ h => h) (Or.inr ⟨by rfl, rfl⟩) ?_ ?_
        rotate_left
        ·simp only [Act.put, List.setIfInBounds_toArray, List.set_cons_zero, List.set_cons_succ, i64_w, i32_w]
         rfl
        refine pure_ (i := 28) (N := some 44) (v := ?_) (a' := ?_) ⟨mk_ 29 536870911⟩ rfl rfl (any_of HT_.out (by kernel_rfl)) (fun _ _ _ h => h) (Or.inl ⟨by rfl, ?_⟩) ?_ ?_
        rotate_left
        ·intro w'
         go_simp
         with_reducible rfl
        rotate_left
        ·simp only [Act.put, List.setIfInBounds_toArray, List.set_cons_zero, List.set_cons_succ, i64_w, i32_w]
         rfl
        refine done_ (done_of HT_.out (by kernel_rfl)) ?_
        try go_wp2
        go_meet
        case rel => exact ⟨_, (true), (by first | rfl | (simp; done) | (simp [*]; done)), H', ⟨by have := HK1.out; first | omega | exact Nat.le_refl _⟩, ⟨by (with_reducible repeat (first | refine blk_drewN ?_ _ | refine blk_drew ?_ | refine blk_alloc ?_ _)); exact BK129.out⟩, ⟨by repeat (first | (with_reducible first | exact HB.out | apply below_alloc | apply pw_below_drewN | apply below_drew1 | refine below_set ?_ GE129.out) | exact HB.out)⟩⟩
       ·rw [if_neg c8] at H
        have c8b0 : decide (((rd_T53 l0 x11_1).f0) < 1) = false := decide_eq_false c8
        clear c8
        (first | rw [c8b0] | (simp only [i64_w, i32_w]; rw [c8b0]) | skip)
        by_cases c11 : ((rd_T53 l0 x11_1).f0) > 65535
        ·rw [if_pos c11] at H
         have c11b0 : decide (65535 < ((rd_T53 l0 x11_1).f0)) = true := decide_eq_true c11
         clear c11
         have H' := Aside0.mk H
         clear H
         try go_wp2
         have n0_ : Aside0 (((((w6.setCell ⟨gb129, 0, none⟩ (.int .i64 ((rd_T53 l0 x11_1).f0))).setCell ⟨gb129, 1, none⟩ (.int .i64 ((rd_T53 l0 x11_1).f1.f0))).setCell ⟨gb129, 2, none⟩ (.int .u64 ((rd_T53 l0 x11_1).f1.f1))).setCell ⟨gb129, 3, none⟩ (.string ((rd_T53 l0 x11_1).f1.f2))).heap[gb129]? = some (.cells #[.int .i64 ((rd_T53 l0 x11_1).f0), .int .i64 ((rd_T53 l0 x11_1).f1.f0), .int .u64 ((rd_T53 l0 x11_1).f1.f1), .string ((rd_T53 l0 x11_1).f1.f2)] 53 (0, 0))) := ⟨by (with_reducible repeat (first | refine blk_drewN ?_ _ | refine blk_drew ?_ | refine blk_alloc ?_ _)); refine blk_put (cs := #[.int .i64 ((rd_T53 l0 x11_1).f0), .int .i64 ((rd_T53 l0 x11_1).f1.f0), .int .u64 ((rd_T53 l0 x11_1).f1.f1), .string (⟨#[]⟩ : ByteArray)]) ?_ 3 _ rfl; (with_reducible repeat (first | refine blk_drewN ?_ _ | refine blk_drew ?_ | refine blk_alloc ?_ _)); refine blk_put (cs := #[.int .i64 ((rd_T53 l0 x11_1).f0), .int .i64 ((rd_T53 l0 x11_1).f1.f0), .int .u64 0, .string (⟨#[]⟩ : ByteArray)]) ?_ 2 _ rfl; (with_reducible repeat (first | refine blk_drewN ?_ _ | refine blk_drew ?_ | refine blk_alloc ?_ _)); refine blk_put (cs := #[.int .i64 ((rd_T53 l0 x11_1).f0), .int .i64 0, .int .u64 0, .string (⟨#[]⟩ : ByteArray)]) ?_ 1 _ rfl; (with_reducible repeat (first | refine blk_drewN ?_ _ | refine blk_drew ?_ | refine blk_alloc ?_ _)); refine blk_put (cs := #[.int .i64 0, .int .i64 0, .int .u64 0, .string (⟨#[]⟩ : ByteArray)]) ?_ 0 _ rfl; (with_reducible repeat (first | refine blk_drewN ?_ _ | refine blk_drew ?_ | refine blk_alloc ?_ _)); exact BK129.out⟩
         have n1_ : Aside0 (Below w.heap.size w ((((w6.setCell ⟨gb129, 0, none⟩ (.int .i64 ((rd_T53 l0 x11_1).f0))).setCell ⟨gb129, 1, none⟩ (.int .i64 ((rd_T53 l0 x11_1).f1.f0))).setCell ⟨gb129, 2, none⟩ (.int .u64 ((rd_T53 l0 x11_1).f1.f1))).setCell ⟨gb129, 3, none⟩ (.string ((rd_T53 l0 x11_1).f1.f2)))) := ⟨by repeat (first | (with_reducible first | exact HB.out | apply below_alloc | apply pw_below_drewN | apply below_drew1 | refine below_set ?_ GE129.out) | exact HB.out)⟩
         (try clear BK129)
         (try clear HB)
         (try simp only [show ∀ (w_ : World) (n_ : Nat) (p_ : Addr) (u_ : Value), (w_.drewN n_).setCell p_ u_ = (w_.setCell p_ u_).drewN n_ from fun _ _ _ _ => rfl])
         generalize ((((w6.setCell ⟨gb129, 0, none⟩ (.int .i64 ((rd_T53 l0 x11_1).f0))).setCell ⟨gb129, 1, none⟩ (.int .i64 ((rd_T53 l0 x11_1).f1.f0))).setCell ⟨gb129, 2, none⟩ (.int .u64 ((rd_T53 l0 x11_1).f1.f1))).setCell ⟨gb129, 3, none⟩ (.string ((rd_T53 l0 x11_1).f1.f2))) = w12 at n0_ n1_ ⊢
         have BK129 := n0_
         have HB := n1_
         clear n0_ n1_
         have n0_ := Aside0.mk (blk_drew BK129.out)
         have n1_ := Aside0.mk (below_drew1 HB.out)
         clear BK129
         clear HB
         have BK129 := n0_
         have HB := n1_
         clear n0_ n1_
         refine start_ (n := 29) (S := fun w' => w'.cell? ⟨gb129, 0, none⟩ = some (.int .i64 ((rd_T53 l0 x11_1).f0)) ∧ w'.cell? ⟨gb129, 1, none⟩ = some (.int .i64 ((rd_T53 l0 x11_1).f1.f0)) ∧ w'.cell? ⟨gb129, 2, none⟩ = some (.int .u64 ((rd_T53 l0 x11_1).f1.f1)) ∧ w'.cell? ⟨gb129, 3, none⟩ = some (.string ((rd_T53 l0 x11_1).f1.f2))) (ds := []) ⟨mk_ 29 0⟩ (by kernel_rfl) rfl rfl ⟨(blk_cell BK129.out 0).trans rfl, (blk_cell BK129.out 1).trans rfl, (blk_cell BK129.out 2).trans rfl, (blk_cell BK129.out 3).trans rfl⟩ (fun hHeld => ?_); refine with_tabW tlv_measure.tab5 tlv_measure.bits5 (fun HT_ HW_ => ?_)
         generalize w12.drew = w13 at BK129 HB hHeld ⊢
         refine pure_ (i := 0) (N := some 16) (v := ?_) (a' := ?_) ⟨mk_ 29 1⟩ rfl rfl (any_of HT_.out (by kernel_rfl)) (fun _ _ _ h => h) (Or.inl ⟨by rfl, ?_⟩) ?_ ?_
         rotate_left
         ·intro w'
          go_simp
          with_reducible rfl
         rotate_left
         ·simp only [Act.put, List.setIfInBounds_toArray, List.set_cons_zero, List.set_cons_succ, i64_w, i32_w]
          rfl
         refine take_ (i := 1) (N := some 17) (v := ?_) (a' := ?_) ⟨mk_ 29 3⟩ rfl rfl (take_ofW HT_.out HW_.out (by kernel_rfl)) (fun _ _ _ h => h) (Or.inl ⟨by rfl, ?_⟩) hHeld ?_ ?_
         rotate_left
         ·rintro w' ⟨s0, s1, s2, s3⟩
          go_simp
          with_reducible rfl
         rotate_left
         ·simp only [Act.put, List.setIfInBounds_toArray, List.set_cons_zero, List.set_cons_succ, i64_w, i32_w]
          rfl
         refine pure_ (i := 2) (N := some 18) (v := ?_) (a' := ?_) ⟨mk_ 29 7⟩ rfl rfl (any_of HT_.out (by kernel_rfl)) (fun _ _ _ h => h) (Or.inl ⟨by rfl, ?_⟩) ?_ ?_
         rotate_left
         ·intro w'
          go_simp
          with_reducible rfl
         rotate_left
         ·simp only [Act.put, List.setIfInBounds_toArray, List.set_cons_zero, List.set_cons_succ, i64_w, i32_w]
          rfl
         refine pure_ (i := 3) (N := some 19) (v := ?_) (a' := ?_) ⟨mk_ 29 15⟩ rfl rfl (any_of HT_.out (by kernel_rfl)) (fun _ _ _ h => h) (Or.inl ⟨by rfl, ?_⟩) ?_ ?_
         rotate_left
         ·intro w'
          go_simp
          with_reducible rfl
         rotate_left
         ·simp only [Act.put, List.setIfInBounds_toArray, List.set_cons_zero, List.set_cons_succ, i64_w, i32_w]
          rfl
         refine pure_ (i := 4) (N := some 20) (v := ?_) (a' := ?_) ⟨mk_ 29 31⟩ rfl rfl (any_of HT_.out (by kernel_rfl)) (fun _ _ _ h => h) (Or.inl ⟨by rfl, ?_⟩) ?_ ?_
         rotate_left
         ·intro w'
          go_simp
          with_reducible rfl
         rotate_left
         ·simp only [Act.put, List.setIfInBounds_toArray, List.set_cons_zero, List.set_cons_succ, i64_w, i32_w]
          rfl
         refine take_ (i := 5) (N := some 21) (v := ?_) (a' := ?_) ⟨mk_ 29 63⟩ rfl rfl (take_ofW HT_.out HW_.out (by kernel_rfl)) (fun _ _ _ h => h) (Or.inl ⟨by rfl, ?_⟩) hHeld ?_ ?_
         rotate_left
         ·rintro w' ⟨s0, s1, s2, s3⟩
          go_simp
          with_reducible rfl
         rotate_left
         ·simp only [Act.put, List.setIfInBounds_toArray, List.set_cons_zero, List.set_cons_succ, i64_w, i32_w]
          rfl
         refine pure_ (i := 6) (N := some 22) (v := ?_) (a' := ?_) ⟨mk_ 29 127⟩ rfl rfl (any_of HT_.out (by kernel_rfl)) (fun _ _ _ h => h) (Or.inl ⟨by rfl, ?_⟩) ?_ ?_
         rotate_left
         ·intro w'
          go_simp
          with_reducible rfl
         rotate_left
         ·simp only [Act.put, List.setIfInBounds_toArray, List.set_cons_zero, List.set_cons_succ, i64_w, i32_w]
          rfl
         refine pure_ (i := 7) (N := some 23) (v := ?_) (a' := ?_) ⟨mk_ 29 255⟩ rfl rfl (any_of HT_.out (by kernel_rfl)) (fun _ _ _ h => h) (Or.inl ⟨by rfl, ?_⟩) ?_ ?_
         rotate_left
         ·intro w'
          go_simp
          with_reducible rfl
         rotate_left
         ·simp only [Act.put, List.setIfInBounds_toArray, List.set_cons_zero, List.set_cons_succ, i64_w, i32_w]
          rfl
         refine pure_ (i := 8) (N := some 24) (v := ?_) (a' := ?_) ⟨mk_ 29 511⟩ rfl rfl (any_of HT_.out (by kernel_rfl)) (fun _ _ _ h => h) (Or.inl ⟨by rfl, ?_⟩) ?_ ?_
         rotate_left
         ·intro w'
          go_simp
          with_reducible rfl
         rotate_left
         ·simp only [Act.put, List.setIfInBounds_toArray, List.set_cons_zero, List.set_cons_succ, i64_w, i32_w]
          rfl
         refine pure_ (i := 9) (N := some 25) (v := undef) (a' := ?_) ⟨mk_ 29 1023⟩ rfl rfl (any_of HT_.out (by kernel_rfl)) (fun _ _ _ h => h) (Or.inr ⟨by rfl, rfl⟩) ?_ ?_
         rotate_left
         ·simp only [Act.put, List.setIfInBounds_toArray, List.set_cons_zero, List.set_cons_succ, i64_w, i32_w]
          rfl
         refine pure_ (i := 10) (N := some 26) (v := undef) (a' := ?_) ⟨mk_ 29 2047⟩ rfl rfl (any_of HT_.out (by kernel_rfl)) (fun _ _ _ h => h) (Or.inr ⟨by rfl, rfl⟩) ?_ ?_
         rotate_left
         ·simp only [Act.put, List.setIfInBounds_toArray, List.set_cons_zero, List.set_cons_succ, i64_w, i32_w]
          rfl
         refine pure_ (i := 11) (N := some 27) (v := undef) (a' := ?_) ⟨mk_ 29 4095⟩ rfl rfl (any_of HT_.out (by kernel_rfl)) (fun _ _ _ h => h) (Or.inr ⟨by rfl, rfl⟩) ?_ ?_
         rotate_left
         ·simp only [Act.put, List.setIfInBounds_toArray, List.set_cons_zero, List.set_cons_succ, i64_w, i32_w]
          rfl
         refine pure_ (i := 12) (N := some 28) (v := undef) (a' := ?_) ⟨mk_ 29 8191⟩ rfl rfl (any_of HT_.out (by kernel_rfl)) (fun _ _ _ h => h) (Or.inr ⟨by rfl, rfl⟩) ?_ ?_
         rotate_left
         ·simp only [Act.put, List.setIfInBounds_toArray, List.set_cons_zero, List.set_cons_succ, i64_w, i32_w]
          rfl
         refine pure_ (i := 13) (N := some 29) (v := undef) (a' := ?_) ⟨mk_ 29 16383⟩ rfl rfl (any_of HT_.out (by kernel_rfl)) (fun _ _ _ h => h) (Or.inr ⟨by rfl, rfl⟩) ?_ ?_
         rotate_left
         ·simp only [Act.put, List.setIfInBounds_toArray, List.set_cons_zero, List.set_cons_succ, i64_w, i32_w]
          rfl
         refine pure_ (i := 14) (N := some 30) (v := undef) (a' := ?_) ⟨mk_ 29 32767⟩ rfl rfl (any_of HT_.out (by kernel_rfl)) (fun _ _ _ h => h) (Or.inr ⟨by rfl, rfl⟩) ?_ ?_
         rotate_left
         ·simp only [Act.put, List.setIfInBounds_toArray, List.set_cons_zero, List.set_cons_succ, i64_w, i32_w]
          rfl
         refine pure_ (i := 15) (N := some 31) (v := undef) (a' := ?_) ⟨mk_ 29 65535⟩ rfl rfl (any_of HT_.out (by kernel_rfl)) (fun _ _ _ h => h) (Or.inr ⟨by rfl, rfl⟩) ?_ ?_
         rotate_left
         ·simp only [Act.put, List.setIfInBounds_toArray, List.set_cons_zero, List.set_cons_succ, i64_w, i32_w]
          rfl
         refine pure_ (i := 16) (N := some 32) (v := undef) (a' := ?_) ⟨mk_ 29 131071⟩ rfl rfl (any_of HT_.out (by kernel_rfl)) (fun _ _ _ h => h) (Or.inr ⟨by rfl, rfl⟩) ?_ ?_
         rotate_left
         ·simp only [Act.put, List.setIfInBounds_toArray, List.set_cons_zero, List.set_cons_succ, i64_w, i32_w]
          rfl
         refine pure_ (i := 17) (N := some 33) (v := undef) (a' := ?_) ⟨mk_ 29 262143⟩ rfl rfl (any_of HT_.out (by kernel_rfl)) (fun _ _ _ h => h) (Or.inr ⟨by rfl, rfl⟩) ?_ ?_
         rotate_left
         ·simp only [Act.put, List.setIfInBounds_toArray, List.set_cons_zero, List.set_cons_succ, i64_w, i32_w]
          rfl
         refine pure_ (i := 18) (N := some 34) (v := undef) (a' := ?_) ⟨mk_ 29 524287⟩ rfl rfl (any_of HT_.out (by kernel_rfl)) (fun _ _ _ h => h) (Or.inr ⟨by rfl, rfl⟩) ?_ ?_
         rotate_left
         ·simp only [Act.put, List.setIfInBounds_toArray, List.set_cons_zero, List.set_cons_succ, i64_w, i32_w]
          rfl
         refine pure_ (i := 19) (N := some 35) (v := undef) (a' := ?_) ⟨mk_ 29 1048575⟩ rfl rfl (any_of HT_.out (by kernel_rfl)) (fun _ _ _ h => h) (Or.inr ⟨by rfl, rfl⟩) ?_ ?_
         rotate_left
         ·simp only [Act.put, List.setIfInBounds_toArray, List.set_cons_zero, List.set_cons_succ, i64_w, i32_w]
          rfl
         refine pure_ (i := 20) (N := some 36) (v := undef) (a' := ?_) ⟨mk_ 29 2097151⟩ rfl rfl (any_of HT_.out (by kernel_rfl)) (fun _ _ _ h => h) (Or.inr ⟨by rfl, rfl⟩) ?_ ?_
         rotate_left
         ·simp only [Act.put, List.setIfInBounds_toArray, List.set_cons_zero, List.set_cons_succ, i64_w, i32_w]
          rfl
         refine pure_ (i := 21) (N := some 37) (v := undef) (a' := ?_) ⟨mk_ 29 4194303⟩ rfl rfl (any_of HT_.out (by kernel_rfl)) (fun _ _ _ h => h) (Or.inr ⟨by rfl, rfl⟩) ?_ ?_
         rotate_left
         ·simp only [Act.put, List.setIfInBounds_toArray, List.set_cons_zero, List.set_cons_succ, i64_w, i32_w]
          rfl
         refine pure_ (i := 22) (N := some 38) (v := ?_) (a' := ?_) ⟨mk_ 29 8388607⟩ rfl rfl (any_of HT_.out (by kernel_rfl)) (fun _ _ _ h => h) (Or.inl ⟨by rfl, ?_⟩) ?_ ?_
         rotate_left
         ·intro w'
          go_simp
          with_reducible rfl
         rotate_left
         ·simp only [Act.put, List.setIfInBounds_toArray, List.set_cons_zero, List.set_cons_succ, i64_w, i32_w]
          rfl
         refine pure_ (i := 23) (N := some 39) (v := ?_) (a' := ?_) ⟨mk_ 29 16777215⟩ rfl rfl (any_of HT_.out (by kernel_rfl)) (fun _ _ _ h => h) (Or.inl ⟨by rfl, ?_⟩) ?_ ?_
         rotate_left
         ·intro w'
          go_simp
          with_reducible rfl
         rotate_left
         ·simp only [Act.put, List.setIfInBounds_toArray, List.set_cons_zero, List.set_cons_succ, i64_w, i32_w]
          rfl
         refine pure_ (i := 24) (N := some 40) (v := undef) (a' := ?_) ⟨mk_ 29 33554431⟩ rfl rfl (any_of HT_.out (by kernel_rfl)) (fun _ _ _ h => h) (Or.inr ⟨by rfl, rfl⟩) ?_ ?_
         rotate_left
         ·simp only [Act.put, List.setIfInBounds_toArray, List.set_cons_zero, List.set_cons_succ, i64_w, i32_w]
          rfl
         refine pure_ (i := 25) (N := some 41) (v := undef) (a' := ?_) ⟨mk_ 29 67108863⟩ rfl rfl (any_of HT_.out (by kernel_rfl)) (fun _ _ _ h => h) (Or.inr ⟨by rfl, rfl⟩) ?_ ?_
         rotate_left
         ·simp only [Act.put, List.setIfInBounds_toArray, List.set_cons_zero, List.set_cons_succ, i64_w, i32_w]
          rfl
         refine pure_ (i := 26) (N := some 42) (v := undef) (a' := ?_) ⟨mk_ 29 134217727⟩ rfl rfl (any_of HT_.out (by kernel_rfl)) (fun _ _ _ h => h) (Or.inr ⟨by rfl, rfl⟩) ?_ ?_
         rotate_left
         ·simp only [Act.put, List.setIfInBounds_toArray, List.set_cons_zero, List.set_cons_succ, i64_w, i32_w]
          rfl
         refine pure_ (i := 27) (N := some 43) (v := undef) (a' := ?_) ⟨mk_ 29 268435455⟩ rfl rfl (any_of HT_.out (by kernel_rfl)) (fun _ _ _ h => h) (Or.inr ⟨by rfl, rfl⟩) ?_ ?_
         rotate_left
         ·simp only [Act.put, List.setIfInBounds_toArray, List.set_cons_zero, List.set_cons_succ, i64_w, i32_w]
          rfl
         refine pure_ (i := 28) (N := some 44) (v := ?_) (a' := ?_) ⟨mk_ 29 536870911⟩ rfl rfl (any_of HT_.out (by kernel_rfl)) (fun _ _ _ h => h) (Or.inl ⟨by rfl, ?_⟩) ?_ ?_
         rotate_left
         ·intro w'
          go_simp
          with_reducible rfl
         rotate_left
         ·simp only [Act.put, List.setIfInBounds_toArray, List.set_cons_zero, List.set_cons_succ, i64_w, i32_w]
          rfl
         refine done_ (done_of HT_.out (by kernel_rfl)) ?_
         try go_wp2
         go_meet
         case rel => exact ⟨_, (true), (by first | rfl | (simp; done) | (simp [*]; done)), H', ⟨by have := HK1.out; first | omega | exact Nat.le_refl _⟩, ⟨by (with_reducible repeat (first | refine blk_drewN ?_ _ | refine blk_drew ?_ | refine blk_alloc ?_ _)); exact BK129.out⟩, ⟨by repeat (first | (with_reducible first | exact HB.out | apply below_alloc | apply pw_below_drewN | apply below_drew1 | refine below_set ?_ GE129.out) | exact HB.out)⟩⟩
        ·rw [if_neg c11] at H
         have c11b0 : decide (65535 < ((rd_T53 l0 x11_1).f0)) = false := decide_eq_false c11
         clear c11
         by_cases c14 : x11_1 > 0
         ·rw [if_pos c14] at H
          have c14b0 : decide (0 < x11_1) = true := decide_eq_true c14
          clear c14
          obtain ⟨ji15, hji15⟩ : ∃ j_ : Int, (wrap64 (x11_1 - 1)) = j_ := ⟨_, rfl⟩
          replace H : (if 0 ≤ (ji15) then (if (ji15) < (l0.length : Int) then (if ((rd_T53 l0 x11_1).f0) ≤ ((rd_T53 l0 (ji15)).f0) then (tlv_measure.j1 k1 l0 x5_1 x11_1 l0 (l0.length : Int) x11_1 true ((rd_T53 l0 x11_1).f0) ((rd_T53 l0 x11_1).f1.f0) ((rd_T53 l0 x11_1).f1.f1) ((rd_T53 l0 x11_1).f1.f2)) else ((kind_Valid.f k1 ((rd_T53 l0 x11_1).f1.f0) ((rd_T53 l0 x11_1).f1.f1) ((rd_T53 l0 x11_1).f1.f2)).bind fun t131 => (tlv_measure.j1 k1 l0 x5_1 x11_1 l0 (l0.length : Int) x11_1 (!t131) ((rd_T53 l0 x11_1).f0) ((rd_T53 l0 x11_1).f1.f0) ((rd_T53 l0 x11_1).f1.f1) ((rd_T53 l0 x11_1).f1.f2)))) else (none)) else (none)) = some (r1, r2, r3) := by first | (rw [hji15] at H; exact H) | (simp only [hji15] at H ⊢; exact H)
          have hji15w : (IntKind.i64.wrap (x11_1 - 1)) = ji15 := (i64_w _).trans hji15
          by_cases c16 : 0 ≤ (ji15)
          ·rw [if_pos c16] at H
           have c16b0 : decide (0 ≤ (ji15)) = true := decide_eq_true c16
           clear c16
           by_cases c17 : (ji15) < (l0.length : Int)
           ·rw [if_pos c17] at H
            have c17b0 : decide ((ji15) < (l0.length : Int)) = true := decide_eq_true c17
            clear c17
            by_cases c18 : ((rd_T53 l0 x11_1).f0) ≤ ((rd_T53 l0 (ji15)).f0)
            ·rw [if_pos c18] at H
             have c18b0 : decide (((rd_T53 l0 x11_1).f0) ≤ ((rd_T53 l0 (ji15)).f0)) = true := decide_eq_true c18
             clear c18
             have H' := Aside0.mk H
             clear H
             try go_wp2
             have n0_ : Aside0 (((((w6.setCell ⟨gb129, 0, none⟩ (.int .i64 ((rd_T53 l0 x11_1).f0))).setCell ⟨gb129, 1, none⟩ (.int .i64 ((rd_T53 l0 x11_1).f1.f0))).setCell ⟨gb129, 2, none⟩ (.int .u64 ((rd_T53 l0 x11_1).f1.f1))).setCell ⟨gb129, 3, none⟩ (.string ((rd_T53 l0 x11_1).f1.f2))).heap[gb129]? = some (.cells #[.int .i64 ((rd_T53 l0 x11_1).f0), .int .i64 ((rd_T53 l0 x11_1).f1.f0), .int .u64 ((rd_T53 l0 x11_1).f1.f1), .string ((rd_T53 l0 x11_1).f1.f2)] 53 (0, 0))) := ⟨by (with_reducible repeat (first | refine blk_drewN ?_ _ | refine blk_drew ?_ | refine blk_alloc ?_ _)); refine blk_put (cs := #[.int .i64 ((rd_T53 l0 x11_1).f0), .int .i64 ((rd_T53 l0 x11_1).f1.f0), .int .u64 ((rd_T53 l0 x11_1).f1.f1), .string (⟨#[]⟩ : ByteArray)]) ?_ 3 _ rfl; (with_reducible repeat (first | refine blk_drewN ?_ _ | refine blk_drew ?_ | refine blk_alloc ?_ _)); refine blk_put (cs := #[.int .i64 ((rd_T53 l0 x11_1).f0), .int .i64 ((rd_T53 l0 x11_1).f1.f0), .int .u64 0, .string (⟨#[]⟩ : ByteArray)]) ?_ 2 _ rfl; (with_reducible repeat (first | refine blk_drewN ?_ _ | refine blk_drew ?_ | refine blk_alloc ?_ _)); refine blk_put (cs := #[.int .i64 ((rd_T53 l0 x11_1).f0), .int .i64 0, .int .u64 0, .string (⟨#[]⟩ : ByteArray)]) ?_ 1 _ rfl; (with_reducible repeat (first | refine blk_drewN ?_ _ | refine blk_drew ?_ | refine blk_alloc ?_ _)); refine blk_put (cs := #[.int .i64 0, .int .i64 0, .int .u64 0, .string (⟨#[]⟩ : ByteArray)]) ?_ 0 _ rfl; (with_reducible repeat (first | refine blk_drewN ?_ _ | refine blk_drew ?_ | refine blk_alloc ?_ _)); exact BK129.out⟩
             have n1_ : Aside0 (Below w.heap.size w ((((w6.setCell ⟨gb129, 0, none⟩ (.int .i64 ((rd_T53 l0 x11_1).f0))).setCell ⟨gb129, 1, none⟩ (.int .i64 ((rd_T53 l0 x11_1).f1.f0))).setCell ⟨gb129, 2, none⟩ (.int .u64 ((rd_T53 l0 x11_1).f1.f1))).setCell ⟨gb129, 3, none⟩ (.string ((rd_T53 l0 x11_1).f1.f2)))) := ⟨by repeat (first | (with_reducible first | exact HB.out | apply below_alloc | apply pw_below_drewN | apply below_drew1 | refine below_set ?_ GE129.out) | exact HB.out)⟩
             (try clear BK129)
             (try clear HB)
             (try simp only [show ∀ (w_ : World) (n_ : Nat) (p_ : Addr) (u_ : Value), (w_.drewN n_).setCell p_ u_ = (w_.setCell p_ u_).drewN n_ from fun _ _ _ _ => rfl])
             generalize ((((w6.setCell ⟨gb129, 0, none⟩ (.int .i64 ((rd_T53 l0 x11_1).f0))).setCell ⟨gb129, 1, none⟩ (.int .i64 ((rd_T53 l0 x11_1).f1.f0))).setCell ⟨gb129, 2, none⟩ (.int .u64 ((rd_T53 l0 x11_1).f1.f1))).setCell ⟨gb129, 3, none⟩ (.string ((rd_T53 l0 x11_1).f1.f2))) = w19 at n0_ n1_ ⊢
             have BK129 := n0_
             have HB := n1_
             clear n0_ n1_
             have n0_ := Aside0.mk (blk_drew BK129.out)
             have n1_ := Aside0.mk (below_drew1 HB.out)
             clear BK129
             clear HB
             have BK129 := n0_
             have HB := n1_
             clear n0_ n1_
             have p130 : 0 ≤ ((ji15) : Int) := of_decide_eq_true (by first | (with_reducible assumption) | assumption)
             have q130 : (ji15) < (l0.length : Int) := of_decide_eq_true (by first | (with_reducible assumption) | assumption)
             obtain ⟨ad130, e130, hx130_0, hx130_1, hx130_2, hx130_3⟩ := at_T53 HR0.out (ji15) p130 q130
             have hw130_3 := hx130_3
             have hw130_2 := hx130_2
             have hw130_1 := hx130_1
             have hw130_0 := hx130_0
             obtain rfl : ad128 = ad130 := (by injection e130)
             replace hx130_0 := (HB.out.cell (World.block_lt_of_cell? w _ hx130_0)).trans hx130_0
             replace hx130_1 := (HB.out.cell (World.block_lt_of_cell? w _ hx130_1)).trans hx130_1
             replace hx130_2 := (HB.out.cell (World.block_lt_of_cell? w _ hx130_2)).trans hx130_2
             replace hx130_3 := (HB.out.cell (World.block_lt_of_cell? w _ hx130_3)).trans hx130_3
             replace p130 := eq_true p130
             replace q130 := eq_true q130
             refine start_ (n := 29) (S := fun w' => w'.cell? ⟨gb129, 0, none⟩ = some (.int .i64 ((rd_T53 l0 x11_1).f0)) ∧ w'.cell? ⟨gb129, 1, none⟩ = some (.int .i64 ((rd_T53 l0 x11_1).f1.f0)) ∧ w'.cell? ⟨gb129, 2, none⟩ = some (.int .u64 ((rd_T53 l0 x11_1).f1.f1)) ∧ w'.cell? ⟨gb129, 3, none⟩ = some (.string ((rd_T53 l0 x11_1).f1.f2)) ∧ w'.cell? (ad128.add (((ji15)).toNat * 4)) = some (.int .i64 ((rd_T53 l0 (ji15)).f0)) ∧ w'.cell? ⟨(ad128.add (((ji15)).toNat * 4)).block, (ad128.add (((ji15)).toNat * 4)).off + 1, none⟩ = some (.int .i64 ((rd_T53 l0 (ji15)).f1.f0)) ∧ w'.cell? ⟨(ad128.add (((ji15)).toNat * 4)).block, (ad128.add (((ji15)).toNat * 4)).off + 2, none⟩ = some (.int .u64 ((rd_T53 l0 (ji15)).f1.f1)) ∧ w'.cell? ⟨(ad128.add (((ji15)).toNat * 4)).block, (ad128.add (((ji15)).toNat * 4)).off + 3, none⟩ = some (.string ((rd_T53 l0 (ji15)).f1.f2))) (ds := []) ⟨mk_ 29 0⟩ (by kernel_rfl) rfl rfl ⟨(blk_cell BK129.out 0).trans rfl, (blk_cell BK129.out 1).trans rfl, (blk_cell BK129.out 2).trans rfl, (blk_cell BK129.out 3).trans rfl, ((HB.out.cell (World.block_lt_of_cell? w _ hw130_0)).trans hw130_0), ((HB.out.cell (World.block_lt_of_cell? w _ hw130_1)).trans hw130_1), ((HB.out.cell (World.block_lt_of_cell? w _ hw130_2)).trans hw130_2), ((HB.out.cell (World.block_lt_of_cell? w _ hw130_3)).trans hw130_3)⟩ (fun hHeld => ?_); refine with_tabW tlv_measure.tab5 tlv_measure.bits5 (fun HT_ HW_ => ?_)
             generalize w19.drew = w20 at BK129 HB hx130_0 hx130_1 hx130_2 hx130_3 hHeld ⊢
             refine pure_ (i := 0) (N := some 16) (v := ?_) (a' := ?_) ⟨mk_ 29 1⟩ rfl rfl (any_of HT_.out (by kernel_rfl)) (fun _ _ _ h => h) (Or.inl ⟨by rfl, ?_⟩) ?_ ?_
             rotate_left
             ·intro w'
              go_simp
              with_reducible rfl
             rotate_left
             ·simp only [Act.put, List.setIfInBounds_toArray, List.set_cons_zero, List.set_cons_succ, i64_w, i32_w]
              rfl
             refine take_ (i := 1) (N := some 17) (v := ?_) (a' := ?_) ⟨mk_ 29 3⟩ rfl rfl (take_ofW HT_.out HW_.out (by kernel_rfl)) (fun _ _ _ h => h) (Or.inl ⟨by rfl, ?_⟩) hHeld ?_ ?_
             rotate_left
             ·rintro w' ⟨s0, s1, s2, s3, s4, s5, s6, s7⟩
              go_simp
              with_reducible rfl
             rotate_left
             ·simp only [Act.put, List.setIfInBounds_toArray, List.set_cons_zero, List.set_cons_succ, i64_w, i32_w]
              rfl
             refine pure_ (i := 2) (N := some 18) (v := ?_) (a' := ?_) ⟨mk_ 29 7⟩ rfl rfl (any_of HT_.out (by kernel_rfl)) (fun _ _ _ h => h) (Or.inl ⟨by rfl, ?_⟩) ?_ ?_
             rotate_left
             ·intro w'
              go_simp
              with_reducible rfl
             rotate_left
             ·simp only [Act.put, List.setIfInBounds_toArray, List.set_cons_zero, List.set_cons_succ, i64_w, i32_w]
              rfl
             refine pure_ (i := 3) (N := some 19) (v := ?_) (a' := ?_) ⟨mk_ 29 15⟩ rfl rfl (any_of HT_.out (by kernel_rfl)) (fun _ _ _ h => h) (Or.inl ⟨by rfl, ?_⟩) ?_ ?_
             rotate_left
             ·intro w'
              go_simp
              with_reducible rfl
             rotate_left
             ·simp only [Act.put, List.setIfInBounds_toArray, List.set_cons_zero, List.set_cons_succ, i64_w, i32_w]
              rfl
             refine pure_ (i := 4) (N := some 20) (v := ?_) (a' := ?_) ⟨mk_ 29 31⟩ rfl rfl (any_of HT_.out (by kernel_rfl)) (fun _ _ _ h => h) (Or.inl ⟨by rfl, ?_⟩) ?_ ?_
             rotate_left
             ·intro w'
              go_simp
              with_reducible rfl
             rotate_left
             ·simp only [Act.put, List.setIfInBounds_toArray, List.set_cons_zero, List.set_cons_succ, i64_w, i32_w]
              rfl
             refine take_ (i := 5) (N := some 21) (v := ?_) (a' := ?_) ⟨mk_ 29 63⟩ rfl rfl (take_ofW HT_.out HW_.out (by kernel_rfl)) (fun _ _ _ h => h) (Or.inl ⟨by rfl, ?_⟩) hHeld ?_ ?_
             rotate_left
             ·rintro w' ⟨s0, s1, s2, s3, s4, s5, s6, s7⟩
              go_simp
              with_reducible rfl
             rotate_left
             ·simp only [Act.put, List.setIfInBounds_toArray, List.set_cons_zero, List.set_cons_succ, i64_w, i32_w]
              rfl
             refine pure_ (i := 6) (N := some 22) (v := ?_) (a' := ?_) ⟨mk_ 29 127⟩ rfl rfl (any_of HT_.out (by kernel_rfl)) (fun _ _ _ h => h) (Or.inl ⟨by rfl, ?_⟩) ?_ ?_
             rotate_left
             ·intro w'
              go_simp
              with_reducible rfl
             rotate_left
             ·simp only [Act.put, List.setIfInBounds_toArray, List.set_cons_zero, List.set_cons_succ, i64_w, i32_w]
              rfl
             refine pure_ (i := 7) (N := some 23) (v := ?_) (a' := ?_) ⟨mk_ 29 255⟩ rfl rfl (any_of HT_.out (by kernel_rfl)) (fun _ _ _ h => h) (Or.inl ⟨by rfl, ?_⟩) ?_ ?_
             rotate_left
             ·intro w'
              go_simp
              with_reducible rfl
             rotate_left
             ·simp only [Act.put, List.setIfInBounds_toArray, List.set_cons_zero, List.set_cons_succ, i64_w, i32_w]
              rfl
             refine pure_ (i := 8) (N := some 24) (v := ?_) (a' := ?_) ⟨mk_ 29 511⟩ rfl rfl (any_of HT_.out (by kernel_rfl)) (fun _ _ _ h => h) (Or.inl ⟨by rfl, ?_⟩) ?_ ?_
             rotate_left
             ·intro w'
              go_simp
              with_reducible rfl
             rotate_left
             ·simp only [Act.put, List.setIfInBounds_toArray, List.set_cons_zero, List.set_cons_succ, i64_w, i32_w]
              rfl
             refine pure_ (i := 9) (N := some 25) (v := ?_) (a' := ?_) ⟨mk_ 29 1023⟩ rfl rfl (any_of HT_.out (by kernel_rfl)) (fun _ _ _ h => h) (Or.inl ⟨by rfl, ?_⟩) ?_ ?_
             rotate_left
             ·intro w'
              go_simp
              with_reducible rfl
             rotate_left
             ·simp only [Act.put, List.setIfInBounds_toArray, List.set_cons_zero, List.set_cons_succ, i64_w, i32_w]
              rfl
             refine pure_ (i := 10) (N := some 26) (v := ?_) (a' := ?_) ⟨mk_ 29 2047⟩ rfl rfl (any_of HT_.out (by kernel_rfl)) (fun _ _ _ h => h) (Or.inl ⟨by rfl, ?_⟩) ?_ ?_
             rotate_left
             ·intro w'
              go_simp
              with_reducible rfl
             rotate_left
             ·simp only [Act.put, List.setIfInBounds_toArray, List.set_cons_zero, List.set_cons_succ, i64_w, i32_w]
              rfl
             refine pure_ (i := 11) (N := some 27) (v := ?_) (a' := ?_) ⟨mk_ 29 4095⟩ rfl rfl (any_of HT_.out (by kernel_rfl)) (fun _ _ _ h => h) (Or.inl ⟨by rfl, ?_⟩) ?_ ?_
             rotate_left
             ·intro w'
              go_simp
              with_reducible rfl
             rotate_left
             ·simp only [Act.put, List.setIfInBounds_toArray, List.set_cons_zero, List.set_cons_succ, i64_w, i32_w]
              rfl
             refine pure_ (i := 12) (N := some 28) (v := ?_) (a' := ?_) ⟨mk_ 29 8191⟩ rfl rfl (any_of HT_.out (by kernel_rfl)) (fun _ _ _ h => h) (Or.inl ⟨by rfl, ?_⟩) ?_ ?_
             rotate_left
             ·intro w'
              go_simp
              with_reducible rfl
             rotate_left
             ·simp only [Act.put, List.setIfInBounds_toArray, List.set_cons_zero, List.set_cons_succ, i64_w, i32_w]
              rfl
             refine pure_ (i := 14) (N := some 30) (v := ?_) (a' := ?_) ⟨mk_ 29 24575⟩ rfl rfl (any_of HT_.out (by kernel_rfl)) (fun _ _ _ h => h) (Or.inl ⟨by rfl, ?_⟩) ?_ ?_
             rotate_left
             ·intro w'
              go_simp
              with_reducible rfl
             rotate_left
             ·simp only [Act.put, List.setIfInBounds_toArray, List.set_cons_zero, List.set_cons_succ, i64_w, i32_w]
              rfl
             refine pure_ (i := 15) (N := some 31) (v := ?_) (a' := ?_) ⟨mk_ 29 57343⟩ rfl rfl (any_of HT_.out (by kernel_rfl)) (fun _ _ _ h => h) (Or.inl ⟨by rfl, ?_⟩) ?_ ?_
             rotate_left
             ·intro w'
              go_simp
              with_reducible rfl
             rotate_left
             ·simp only [Act.put, List.setIfInBounds_toArray, List.set_cons_zero, List.set_cons_succ, i64_w, i32_w]
              rfl
             refine pure_ (i := 16) (N := some 32) (v := ?_) (a' := ?_) ⟨mk_ 29 122879⟩ rfl rfl (any_of HT_.out (by kernel_rfl)) (fun _ _ _ h => h) (Or.inl ⟨by rfl, ?_⟩) ?_ ?_
             rotate_left
             ·intro w'
              go_simp
              with_reducible rfl
             rotate_left
             ·simp only [Act.put, List.setIfInBounds_toArray, List.set_cons_zero, List.set_cons_succ, i64_w, i32_w]
              rfl
             refine pure_ (i := 17) (N := some 33) (v := ?_) (a' := ?_) ⟨mk_ 29 253951⟩ rfl rfl (any_of HT_.out (by kernel_rfl)) (fun _ _ _ h => h) (Or.inl ⟨by rfl, ?_⟩) ?_ ?_
             rotate_left
             ·intro w'
              go_simp
              with_reducible rfl
             rotate_left
             ·simp only [Act.put, List.setIfInBounds_toArray, List.set_cons_zero, List.set_cons_succ, i64_w, i32_w]
              rfl
             refine pure_ (i := 18) (N := some 34) (v := ?_) (a' := ?_) ⟨mk_ 29 516095⟩ rfl rfl (any_of HT_.out (by kernel_rfl)) (fun _ _ _ h => h) (Or.inl ⟨by rfl, ?_⟩) ?_ ?_
             rotate_left
             ·intro w'
              go_simp
              with_reducible rfl
             rotate_left
             ·simp only [Act.put, List.setIfInBounds_toArray, List.set_cons_zero, List.set_cons_succ, i64_w, i32_w]
              rfl
             refine take_ (i := 13) (N := some 29) (v := ?_) (a' := ?_) ⟨mk_ 29 524287⟩ rfl rfl (take_ofW HT_.out HW_.out (by kernel_rfl)) (fun _ _ _ h => h) (Or.inl ⟨by rfl, ?_⟩) hHeld ?_ ?_
             rotate_left
             ·rintro w' ⟨s0, s1, s2, s3, s4, s5, s6, s7⟩
              go_simp
              with_reducible rfl
             rotate_left
             ·simp only [Act.put, List.setIfInBounds_toArray, List.set_cons_zero, List.set_cons_succ, i64_w, i32_w]
              rfl
             refine take_ (i := 19) (N := some 35) (v := ?_) (a' := ?_) ⟨mk_ 29 1048575⟩ rfl rfl (take_ofW HT_.out HW_.out (by kernel_rfl)) (fun _ _ _ h => h) (Or.inl ⟨by rfl, ?_⟩) hHeld ?_ ?_
             rotate_left
             ·rintro w' ⟨s0, s1, s2, s3, s4, s5, s6, s7⟩
              go_simp
              with_reducible rfl
             rotate_left
             ·simp only [Act.put, List.setIfInBounds_toArray, List.set_cons_zero, List.set_cons_succ, i64_w, i32_w]
              rfl
             refine pure_ (i := 20) (N := some 36) (v := ?_) (a' := ?_) ⟨mk_ 29 2097151⟩ rfl rfl (any_of HT_.out (by kernel_rfl)) (fun _ _ _ h => h) (Or.inl ⟨by rfl, ?_⟩) ?_ ?_
             rotate_left
             ·intro w'
              go_simp
              with_reducible rfl
             rotate_left
             ·simp only [Act.put, List.setIfInBounds_toArray, List.set_cons_zero, List.set_cons_succ, i64_w, i32_w]
              rfl
             refine pure_ (i := 21) (N := some 37) (v := ?_) (a' := ?_) ⟨mk_ 29 4194303⟩ rfl rfl (any_of HT_.out (by kernel_rfl)) (fun _ _ _ h => h) (Or.inl ⟨by rfl, ?_⟩) ?_ ?_
             rotate_left
             ·intro w'
              go_simp
              with_reducible rfl
             rotate_left
             ·simp only [Act.put, List.setIfInBounds_toArray, List.set_cons_zero, List.set_cons_succ, i64_w, i32_w]
              rfl
             refine pure_ (i := 22) (N := some 38) (v := ?_) (a' := ?_) ⟨mk_ 29 8388607⟩ rfl rfl (any_of HT_.out (by kernel_rfl)) (fun _ _ _ h => h) (Or.inl ⟨by rfl, ?_⟩) ?_ ?_
             rotate_left
             ·intro w'
              go_simp
              with_reducible rfl
             rotate_left
             ·simp only [Act.put, List.setIfInBounds_toArray, List.set_cons_zero, List.set_cons_succ, i64_w, i32_w]
              rfl
             refine pure_ (i := 23) (N := some 39) (v := ?_) (a' := ?_) ⟨mk_ 29 16777215⟩ rfl rfl (any_of HT_.out (by kernel_rfl)) (fun _ _ _ h => h) (Or.inl ⟨by rfl, ?_⟩) ?_ ?_
             rotate_left
             ·intro w'
              go_simp
              with_reducible rfl
             rotate_left
             ·simp only [Act.put, List.setIfInBounds_toArray, List.set_cons_zero, List.set_cons_succ, i64_w, i32_w]
              rfl
             refine pure_ (i := 24) (N := some 40) (v := undef) (a' := ?_) ⟨mk_ 29 33554431⟩ rfl rfl (any_of HT_.out (by kernel_rfl)) (fun _ _ _ h => h) (Or.inr ⟨by rfl, rfl⟩) ?_ ?_
             rotate_left
             ·simp only [Act.put, List.setIfInBounds_toArray, List.set_cons_zero, List.set_cons_succ, i64_w, i32_w]
              rfl
             refine pure_ (i := 25) (N := some 41) (v := undef) (a' := ?_) ⟨mk_ 29 67108863⟩ rfl rfl (any_of HT_.out (by kernel_rfl)) (fun _ _ _ h => h) (Or.inr ⟨by rfl, rfl⟩) ?_ ?_
             rotate_left
             ·simp only [Act.put, List.setIfInBounds_toArray, List.set_cons_zero, List.set_cons_succ, i64_w, i32_w]
              rfl
             refine pure_ (i := 26) (N := some 42) (v := undef) (a' := ?_) ⟨mk_ 29 134217727⟩ rfl rfl (any_of HT_.out (by kernel_rfl)) (fun _ _ _ h => h) (Or.inr ⟨by rfl, rfl⟩) ?_ ?_
             rotate_left
             ·simp only [Act.put, List.setIfInBounds_toArray, List.set_cons_zero, List.set_cons_succ, i64_w, i32_w]
              rfl
             refine pure_ (i := 27) (N := some 43) (v := undef) (a' := ?_) ⟨mk_ 29 268435455⟩ rfl rfl (any_of HT_.out (by kernel_rfl)) (fun _ _ _ h => h) (Or.inr ⟨by rfl, rfl⟩) ?_ ?_
             rotate_left
             ·simp only [Act.put, List.setIfInBounds_toArray, List.set_cons_zero, List.set_cons_succ, i64_w, i32_w]
              rfl
             refine pure_ (i := 28) (N := some 44) (v := ?_) (a' := ?_) ⟨mk_ 29 536870911⟩ rfl rfl (any_of HT_.out (by kernel_rfl)) (fun _ _ _ h => h) (Or.inl ⟨by rfl, ?_⟩) ?_ ?_
             rotate_left
             ·intro w'
              go_simp
              with_reducible rfl
             rotate_left
             ·simp only [Act.put, List.setIfInBounds_toArray, List.set_cons_zero, List.set_cons_succ, i64_w, i32_w]
              rfl
             refine done_ (done_of HT_.out (by kernel_rfl)) ?_
             try go_wp2
             go_meet
             case rel => exact ⟨_, (true), (by first | rfl | (simp; done) | (simp [*]; done)), H', ⟨by have := HK1.out; first | omega | exact Nat.le_refl _⟩, ⟨by (with_reducible repeat (first | refine blk_drewN ?_ _ | refine blk_drew ?_ | refine blk_alloc ?_ _)); exact BK129.out⟩, ⟨by repeat (first | (with_reducible first | exact HB.out | apply below_alloc | apply pw_below_drewN | apply below_drew1 | refine below_set ?_ GE129.out) | exact HB.out)⟩⟩
            ·rw [if_neg c18] at H
             have c18b0 : decide (((rd_T53 l0 x11_1).f0) ≤ ((rd_T53 l0 (ji15)).f0)) = false := decide_eq_false c18
             clear c18
             replace H := Option.bind_eq_some_iff.mp H
             obtain ⟨t131, A210, H⟩ := H
             replace H : (tlv_measure.j1 k1 l0 x5_1 x11_1 l0 (l0.length : Int) x11_1 (!t131) ((rd_T53 l0 x11_1).f0) ((rd_T53 l0 x11_1).f1.f0) ((rd_T53 l0 x11_1).f1.f1) ((rd_T53 l0 x11_1).f1.f2)) = some (r1, r2, r3) := H
             have A21 := Aside0.mk A210
             clear A210
             have H' := Aside0.mk H
             clear H
             try go_wp2
             have n0_ : Aside0 (((((w6.setCell ⟨gb129, 0, none⟩ (.int .i64 ((rd_T53 l0 x11_1).f0))).setCell ⟨gb129, 1, none⟩ (.int .i64 ((rd_T53 l0 x11_1).f1.f0))).setCell ⟨gb129, 2, none⟩ (.int .u64 ((rd_T53 l0 x11_1).f1.f1))).setCell ⟨gb129, 3, none⟩ (.string ((rd_T53 l0 x11_1).f1.f2))).heap[gb129]? = some (.cells #[.int .i64 ((rd_T53 l0 x11_1).f0), .int .i64 ((rd_T53 l0 x11_1).f1.f0), .int .u64 ((rd_T53 l0 x11_1).f1.f1), .string ((rd_T53 l0 x11_1).f1.f2)] 53 (0, 0))) := ⟨by (with_reducible repeat (first | refine blk_drewN ?_ _ | refine blk_drew ?_ | refine blk_alloc ?_ _)); refine blk_put (cs := #[.int .i64 ((rd_T53 l0 x11_1).f0), .int .i64 ((rd_T53 l0 x11_1).f1.f0), .int .u64 ((rd_T53 l0 x11_1).f1.f1), .string (⟨#[]⟩ : ByteArray)]) ?_ 3 _ rfl; (with_reducible repeat (first | refine blk_drewN ?_ _ | refine blk_drew ?_ | refine blk_alloc ?_ _)); refine blk_put (cs := #[.int .i64 ((rd_T53 l0 x11_1).f0), .int .i64 ((rd_T53 l0 x11_1).f1.f0), .int .u64 0, .string (⟨#[]⟩ : ByteArray)]) ?_ 2 _ rfl; (with_reducible repeat (first | refine blk_drewN ?_ _ | refine blk_drew ?_ | refine blk_alloc ?_ _)); refine blk_put (cs := #[.int .i64 ((rd_T53 l0 x11_1).f0), .int .i64 0, .int .u64 0, .string (⟨#[]⟩ : ByteArray)]) ?_ 1 _ rfl; (with_reducible repeat (first | refine blk_drewN ?_ _ | refine blk_drew ?_ | refine blk_alloc ?_ _)); refine blk_put (cs := #[.int .i64 0, .int .i64 0, .int .u64 0, .string (⟨#[]⟩ : ByteArray)]) ?_ 0 _ rfl; (with_reducible repeat (first | refine blk_drewN ?_ _ | refine blk_drew ?_ | refine blk_alloc ?_ _)); exact BK129.out⟩
             have n1_ : Aside0 (Below w.heap.size w ((((w6.setCell ⟨gb129, 0, none⟩ (.int .i64 ((rd_T53 l0 x11_1).f0))).setCell ⟨gb129, 1, none⟩ (.int .i64 ((rd_T53 l0 x11_1).f1.f0))).setCell ⟨gb129, 2, none⟩ (.int .u64 ((rd_T53 l0 x11_1).f1.f1))).setCell ⟨gb129, 3, none⟩ (.string ((rd_T53 l0 x11_1).f1.f2)))) := ⟨by repeat (first | (with_reducible first | exact HB.out | apply below_alloc | apply pw_below_drewN | apply below_drew1 | refine below_set ?_ GE129.out) | exact HB.out)⟩
             (try clear BK129)
             (try clear HB)
             (try simp only [show ∀ (w_ : World) (n_ : Nat) (p_ : Addr) (u_ : Value), (w_.drewN n_).setCell p_ u_ = (w_.setCell p_ u_).drewN n_ from fun _ _ _ _ => rfl])
             generalize ((((w6.setCell ⟨gb129, 0, none⟩ (.int .i64 ((rd_T53 l0 x11_1).f0))).setCell ⟨gb129, 1, none⟩ (.int .i64 ((rd_T53 l0 x11_1).f1.f0))).setCell ⟨gb129, 2, none⟩ (.int .u64 ((rd_T53 l0 x11_1).f1.f1))).setCell ⟨gb129, 3, none⟩ (.string ((rd_T53 l0 x11_1).f1.f2))) = w22 at n0_ n1_ ⊢
             have BK129 := n0_
             have HB := n1_
             clear n0_ n1_
             have n0_ := Aside0.mk (blk_drew BK129.out)
             have n1_ := Aside0.mk (below_drew1 HB.out)
             clear BK129
             clear HB
             have BK129 := n0_
             have HB := n1_
             clear n0_ n1_
             have p130 : 0 ≤ ((ji15) : Int) := of_decide_eq_true (by first | (with_reducible assumption) | assumption)
             have q130 : (ji15) < (l0.length : Int) := of_decide_eq_true (by first | (with_reducible assumption) | assumption)
             obtain ⟨ad130, e130, hx130_0, hx130_1, hx130_2, hx130_3⟩ := at_T53 HR0.out (ji15) p130 q130
             have hw130_3 := hx130_3
             have hw130_2 := hx130_2
             have hw130_1 := hx130_1
             have hw130_0 := hx130_0
             obtain rfl : ad128 = ad130 := (by injection e130)
             replace hx130_0 := (HB.out.cell (World.block_lt_of_cell? w _ hx130_0)).trans hx130_0
             replace hx130_1 := (HB.out.cell (World.block_lt_of_cell? w _ hx130_1)).trans hx130_1
             replace hx130_2 := (HB.out.cell (World.block_lt_of_cell? w _ hx130_2)).trans hx130_2
             replace hx130_3 := (HB.out.cell (World.block_lt_of_cell? w _ hx130_3)).trans hx130_3
             replace p130 := eq_true p130
             replace q130 := eq_true q130
             refine start_ (n := 29) (S := fun w' => w'.cell? ⟨gb129, 0, none⟩ = some (.int .i64 ((rd_T53 l0 x11_1).f0)) ∧ w'.cell? ⟨gb129, 1, none⟩ = some (.int .i64 ((rd_T53 l0 x11_1).f1.f0)) ∧ w'.cell? ⟨gb129, 2, none⟩ = some (.int .u64 ((rd_T53 l0 x11_1).f1.f1)) ∧ w'.cell? ⟨gb129, 3, none⟩ = some (.string ((rd_T53 l0 x11_1).f1.f2)) ∧ w'.cell? (ad128.add (((ji15)).toNat * 4)) = some (.int .i64 ((rd_T53 l0 (ji15)).f0)) ∧ w'.cell? ⟨(ad128.add (((ji15)).toNat * 4)).block, (ad128.add (((ji15)).toNat * 4)).off + 1, none⟩ = some (.int .i64 ((rd_T53 l0 (ji15)).f1.f0)) ∧ w'.cell? ⟨(ad128.add (((ji15)).toNat * 4)).block, (ad128.add (((ji15)).toNat * 4)).off + 2, none⟩ = some (.int .u64 ((rd_T53 l0 (ji15)).f1.f1)) ∧ w'.cell? ⟨(ad128.add (((ji15)).toNat * 4)).block, (ad128.add (((ji15)).toNat * 4)).off + 3, none⟩ = some (.string ((rd_T53 l0 (ji15)).f1.f2))) (ds := []) ⟨mk_ 29 0⟩ (by kernel_rfl) rfl rfl ⟨(blk_cell BK129.out 0).trans rfl, (blk_cell BK129.out 1).trans rfl, (blk_cell BK129.out 2).trans rfl, (blk_cell BK129.out 3).trans rfl, ((HB.out.cell (World.block_lt_of_cell? w _ hw130_0)).trans hw130_0), ((HB.out.cell (World.block_lt_of_cell? w _ hw130_1)).trans hw130_1), ((HB.out.cell (World.block_lt_of_cell? w _ hw130_2)).trans hw130_2), ((HB.out.cell (World.block_lt_of_cell? w _ hw130_3)).trans hw130_3)⟩ (fun hHeld => ?_); refine with_tabW tlv_measure.tab5 tlv_measure.bits5 (fun HT_ HW_ => ?_)
             generalize w22.drew = w23 at BK129 HB hx130_0 hx130_1 hx130_2 hx130_3 hHeld ⊢
             refine pure_ (i := 0) (N := some 16) (v := ?_) (a' := ?_) ⟨mk_ 29 1⟩ rfl rfl (any_of HT_.out (by kernel_rfl)) (fun _ _ _ h => h) (Or.inl ⟨by rfl, ?_⟩) ?_ ?_
             rotate_left
             ·intro w'
              go_simp
              with_reducible rfl
             rotate_left
             ·simp only [Act.put, List.setIfInBounds_toArray, List.set_cons_zero, List.set_cons_succ, i64_w, i32_w]
              rfl
             refine take_ (i := 1) (N := some 17) (v := ?_) (a' := ?_) ⟨mk_ 29 3⟩ rfl rfl (take_ofW HT_.out HW_.out (by kernel_rfl)) (fun _ _ _ h => h) (Or.inl ⟨by rfl, ?_⟩) hHeld ?_ ?_
             rotate_left
             ·rintro w' ⟨s0, s1, s2, s3, s4, s5, s6, s7⟩
              go_simp
              with_reducible rfl
             rotate_left
             ·simp only [Act.put, List.setIfInBounds_toArray, List.set_cons_zero, List.set_cons_succ, i64_w, i32_w]
              rfl
             refine pure_ (i := 2) (N := some 18) (v := ?_) (a' := ?_) ⟨mk_ 29 7⟩ rfl rfl (any_of HT_.out (by kernel_rfl)) (fun _ _ _ h => h) (Or.inl ⟨by rfl, ?_⟩) ?_ ?_
             rotate_left
             ·intro w'
              go_simp
              with_reducible rfl
             rotate_left
             ·simp only [Act.put, List.setIfInBounds_toArray, List.set_cons_zero, List.set_cons_succ, i64_w, i32_w]
              rfl
             refine pure_ (i := 3) (N := some 19) (v := ?_) (a' := ?_) ⟨mk_ 29 15⟩ rfl rfl (any_of HT_.out (by kernel_rfl)) (fun _ _ _ h => h) (Or.inl ⟨by rfl, ?_⟩) ?_ ?_
             rotate_left
             ·intro w'
              go_simp
              with_reducible rfl
             rotate_left
             ·simp only [Act.put, List.setIfInBounds_toArray, List.set_cons_zero, List.set_cons_succ, i64_w, i32_w]
              rfl
             refine pure_ (i := 4) (N := some 20) (v := ?_) (a' := ?_) ⟨mk_ 29 31⟩ rfl rfl (any_of HT_.out (by kernel_rfl)) (fun _ _ _ h => h) (Or.inl ⟨by rfl, ?_⟩) ?_ ?_
             rotate_left
             ·intro w'
              go_simp
              with_reducible rfl
             rotate_left
             ·simp only [Act.put, List.setIfInBounds_toArray, List.set_cons_zero, List.set_cons_succ, i64_w, i32_w]
              rfl
             refine take_ (i := 5) (N := some 21) (v := ?_) (a' := ?_) ⟨mk_ 29 63⟩ rfl rfl (take_ofW HT_.out HW_.out (by kernel_rfl)) (fun _ _ _ h => h) (Or.inl ⟨by rfl, ?_⟩) hHeld ?_ ?_
             rotate_left
             ·rintro w' ⟨s0, s1, s2, s3, s4, s5, s6, s7⟩
              go_simp
              with_reducible rfl
             rotate_left
             ·simp only [Act.put, List.setIfInBounds_toArray, List.set_cons_zero, List.set_cons_succ, i64_w, i32_w]
              rfl
             refine pure_ (i := 6) (N := some 22) (v := ?_) (a' := ?_) ⟨mk_ 29 127⟩ rfl rfl (any_of HT_.out (by kernel_rfl)) (fun _ _ _ h => h) (Or.inl ⟨by rfl, ?_⟩) ?_ ?_
             rotate_left
             ·intro w'
              go_simp
              with_reducible rfl
             rotate_left
             ·simp only [Act.put, List.setIfInBounds_toArray, List.set_cons_zero, List.set_cons_succ, i64_w, i32_w]
              rfl
             refine pure_ (i := 7) (N := some 23) (v := ?_) (a' := ?_) ⟨mk_ 29 255⟩ rfl rfl (any_of HT_.out (by kernel_rfl)) (fun _ _ _ h => h) (Or.inl ⟨by rfl, ?_⟩) ?_ ?_
             rotate_left
             ·intro w'
              go_simp
              with_reducible rfl
             rotate_left
             ·simp only [Act.put, List.setIfInBounds_toArray, List.set_cons_zero, List.set_cons_succ, i64_w, i32_w]
              rfl
             refine pure_ (i := 8) (N := some 24) (v := ?_) (a' := ?_) ⟨mk_ 29 511⟩ rfl rfl (any_of HT_.out (by kernel_rfl)) (fun _ _ _ h => h) (Or.inl ⟨by rfl, ?_⟩) ?_ ?_
             rotate_left
             ·intro w'
              go_simp
              with_reducible rfl
             rotate_left
             ·simp only [Act.put, List.setIfInBounds_toArray, List.set_cons_zero, List.set_cons_succ, i64_w, i32_w]
              rfl
             refine pure_ (i := 9) (N := some 25) (v := ?_) (a' := ?_) ⟨mk_ 29 1023⟩ rfl rfl (any_of HT_.out (by kernel_rfl)) (fun _ _ _ h => h) (Or.inl ⟨by rfl, ?_⟩) ?_ ?_
             rotate_left
             ·intro w'
              go_simp
              with_reducible rfl
             rotate_left
             ·simp only [Act.put, List.setIfInBounds_toArray, List.set_cons_zero, List.set_cons_succ, i64_w, i32_w]
              rfl
             refine pure_ (i := 10) (N := some 26) (v := ?_) (a' := ?_) ⟨mk_ 29 2047⟩ rfl rfl (any_of HT_.out (by kernel_rfl)) (fun _ _ _ h => h) (Or.inl ⟨by rfl, ?_⟩) ?_ ?_
             rotate_left
             ·intro w'
              go_simp
              with_reducible rfl
             rotate_left
             ·simp only [Act.put, List.setIfInBounds_toArray, List.set_cons_zero, List.set_cons_succ, i64_w, i32_w]
              rfl
             refine pure_ (i := 11) (N := some 27) (v := ?_) (a' := ?_) ⟨mk_ 29 4095⟩ rfl rfl (any_of HT_.out (by kernel_rfl)) (fun _ _ _ h => h) (Or.inl ⟨by rfl, ?_⟩) ?_ ?_
             rotate_left
             ·intro w'
              go_simp
              with_reducible rfl
             rotate_left
             ·simp only [Act.put, List.setIfInBounds_toArray, List.set_cons_zero, List.set_cons_succ, i64_w, i32_w]
              rfl
             refine pure_ (i := 12) (N := some 28) (v := ?_) (a' := ?_) ⟨mk_ 29 8191⟩ rfl rfl (any_of HT_.out (by kernel_rfl)) (fun _ _ _ h => h) (Or.inl ⟨by rfl, ?_⟩) ?_ ?_
             rotate_left
             ·intro w'
              go_simp
              with_reducible rfl
             rotate_left
             ·simp only [Act.put, List.setIfInBounds_toArray, List.set_cons_zero, List.set_cons_succ, i64_w, i32_w]
              rfl
             refine pure_ (i := 14) (N := some 30) (v := ?_) (a' := ?_) ⟨mk_ 29 24575⟩ rfl rfl (any_of HT_.out (by kernel_rfl)) (fun _ _ _ h => h) (Or.inl ⟨by rfl, ?_⟩) ?_ ?_
             rotate_left
             ·intro w'
              go_simp
              with_reducible rfl
             rotate_left
             ·simp only [Act.put, List.setIfInBounds_toArray, List.set_cons_zero, List.set_cons_succ, i64_w, i32_w]
              rfl
             refine pure_ (i := 15) (N := some 31) (v := ?_) (a' := ?_) ⟨mk_ 29 57343⟩ rfl rfl (any_of HT_.out (by kernel_rfl)) (fun _ _ _ h => h) (Or.inl ⟨by rfl, ?_⟩) ?_ ?_
             rotate_left
             ·intro w'
              go_simp
              with_reducible rfl
             rotate_left
             ·simp only [Act.put, List.setIfInBounds_toArray, List.set_cons_zero, List.set_cons_succ, i64_w, i32_w]
              rfl
             refine pure_ (i := 16) (N := some 32) (v := ?_) (a' := ?_) ⟨mk_ 29 122879⟩ rfl rfl (any_of HT_.out (by kernel_rfl)) (fun _ _ _ h => h) (Or.inl ⟨by rfl, ?_⟩) ?_ ?_
             rotate_left
             ·intro w'
              go_simp
              with_reducible rfl
             rotate_left
             ·simp only [Act.put, List.setIfInBounds_toArray, List.set_cons_zero, List.set_cons_succ, i64_w, i32_w]
              rfl
             refine pure_ (i := 17) (N := some 33) (v := ?_) (a' := ?_) ⟨mk_ 29 253951⟩ rfl rfl (any_of HT_.out (by kernel_rfl)) (fun _ _ _ h => h) (Or.inl ⟨by rfl, ?_⟩) ?_ ?_
             rotate_left
             ·intro w'
              go_simp
              with_reducible rfl
             rotate_left
             ·simp only [Act.put, List.setIfInBounds_toArray, List.set_cons_zero, List.set_cons_succ, i64_w, i32_w]
              rfl
             refine pure_ (i := 18) (N := some 34) (v := ?_) (a' := ?_) ⟨mk_ 29 516095⟩ rfl rfl (any_of HT_.out (by kernel_rfl)) (fun _ _ _ h => h) (Or.inl ⟨by rfl, ?_⟩) ?_ ?_
             rotate_left
             ·intro w'
              go_simp
              with_reducible rfl
             rotate_left
             ·simp only [Act.put, List.setIfInBounds_toArray, List.set_cons_zero, List.set_cons_succ, i64_w, i32_w]
              rfl
             refine take_ (i := 13) (N := some 29) (v := ?_) (a' := ?_) ⟨mk_ 29 524287⟩ rfl rfl (take_ofW HT_.out HW_.out (by kernel_rfl)) (fun _ _ _ h => h) (Or.inl ⟨by rfl, ?_⟩) hHeld ?_ ?_
             rotate_left
             ·rintro w' ⟨s0, s1, s2, s3, s4, s5, s6, s7⟩
              go_simp
              with_reducible rfl
             rotate_left
             ·simp only [Act.put, List.setIfInBounds_toArray, List.set_cons_zero, List.set_cons_succ, i64_w, i32_w]
              rfl
             refine take_ (i := 19) (N := some 35) (v := ?_) (a' := ?_) ⟨mk_ 29 1048575⟩ rfl rfl (take_ofW HT_.out HW_.out (by kernel_rfl)) (fun _ _ _ h => h) (Or.inl ⟨by rfl, ?_⟩) hHeld ?_ ?_
             rotate_left
             ·rintro w' ⟨s0, s1, s2, s3, s4, s5, s6, s7⟩
              go_simp
              with_reducible rfl
             rotate_left
             ·simp only [Act.put, List.setIfInBounds_toArray, List.set_cons_zero, List.set_cons_succ, i64_w, i32_w]
              rfl
             refine pure_ (i := 20) (N := some 36) (v := ?_) (a' := ?_) ⟨mk_ 29 2097151⟩ rfl rfl (any_of HT_.out (by kernel_rfl)) (fun _ _ _ h => h) (Or.inl ⟨by rfl, ?_⟩) ?_ ?_
             rotate_left
             ·intro w'
              go_simp
              with_reducible rfl
             rotate_left
             ·simp only [Act.put, List.setIfInBounds_toArray, List.set_cons_zero, List.set_cons_succ, i64_w, i32_w]
              rfl
             refine pure_ (i := 21) (N := some 37) (v := ?_) (a' := ?_) ⟨mk_ 29 4194303⟩ rfl rfl (any_of HT_.out (by kernel_rfl)) (fun _ _ _ h => h) (Or.inl ⟨by rfl, ?_⟩) ?_ ?_
             rotate_left
             ·intro w'
              go_simp
              with_reducible rfl
             rotate_left
             ·simp only [Act.put, List.setIfInBounds_toArray, List.set_cons_zero, List.set_cons_succ, i64_w, i32_w]
              rfl
             refine pure_ (i := 22) (N := some 38) (v := ?_) (a' := ?_) ⟨mk_ 29 8388607⟩ rfl rfl (any_of HT_.out (by kernel_rfl)) (fun _ _ _ h => h) (Or.inl ⟨by rfl, ?_⟩) ?_ ?_
             rotate_left
             ·intro w'
              go_simp
              with_reducible rfl
             rotate_left
             ·simp only [Act.put, List.setIfInBounds_toArray, List.set_cons_zero, List.set_cons_succ, i64_w, i32_w]
              rfl
             refine pure_ (i := 23) (N := some 39) (v := ?_) (a' := ?_) ⟨mk_ 29 16777215⟩ rfl rfl (any_of HT_.out (by kernel_rfl)) (fun _ _ _ h => h) (Or.inl ⟨by rfl, ?_⟩) ?_ ?_
             rotate_left
             ·intro w'
              go_simp
              with_reducible rfl
             rotate_left
             ·simp only [Act.put, List.setIfInBounds_toArray, List.set_cons_zero, List.set_cons_succ, i64_w, i32_w]
              rfl
             refine pure_ (i := 24) (N := some 40) (v := ?_) (a' := ?_) ⟨mk_ 29 33554431⟩ rfl rfl (any_of HT_.out (by kernel_rfl)) (fun _ _ _ h => h) (Or.inl ⟨by rfl, ?_⟩) ?_ ?_
             rotate_left
             ·intro w'
              go_simp
              with_reducible rfl
             rotate_left
             ·simp only [Act.put, List.setIfInBounds_toArray, List.set_cons_zero, List.set_cons_succ, i64_w, i32_w]
              rfl
             refine take_ (i := 25) (N := some 41) (v := ?_) (a' := ?_) ⟨mk_ 29 67108863⟩ rfl rfl (take_ofW HT_.out HW_.out (by kernel_rfl)) (fun _ _ _ h => h) (Or.inl ⟨by rfl, ?_⟩) hHeld ?_ ?_
             rotate_left
             ·rintro w' ⟨s0, s1, s2, s3, s4, s5, s6, s7⟩
              go_simp
              with_reducible rfl
             rotate_left
             ·simp only [Act.put, List.setIfInBounds_toArray, List.set_cons_zero, List.set_cons_succ, i64_w, i32_w]
              rfl
             refine one_ (i := 26) (N := some 42) ⟨mk_ 29 134217727⟩ rfl rfl (one_of HT_.out (by kernel_rfl)) (by decide) (fun K hK => ?_)
             refine goes_ Try.func42 (by kernel_rfl) rfl #[.agg #[.int .i64 ((rd_T53 l0 x11_1).f1.f0), .int .u64 ((rd_T53 l0 x11_1).f1.f1), .string ((rd_T53 l0 x11_1).f1.f2)]] (by rfl) rfl rfl (by (try simp only [List.map_toArray, List.map_cons, List.map_nil]); first | done | rfl | (simp only [List.length_drop, List.length_take]; rfl)) ?_
             with_reducible refine (kind_Valid.calls k1 ((rd_T53 l0 x11_1).f1.f0) ((rd_T53 l0 x11_1).f1.f1) ((rd_T53 l0 x11_1).f1.f2) t131 _ A21.out).mono ?_
             rintro e w24 ⟨rfl, hb⟩
             refine ⟨_, rfl, ?_⟩
             have n0_ := Aside0.mk (blk_below (g := gb129) (o := .cells #[.int .i64 ((rd_T53 l0 x11_1).f0), .int .i64 ((rd_T53 l0 x11_1).f1.f0), .int .u64 ((rd_T53 l0 x11_1).f1.f1), .string ((rd_T53 l0 x11_1).f1.f2)] 53 (0, 0)) (by (with_reducible repeat (first | refine blk_drewN ?_ _ | refine blk_drew ?_ | refine blk_alloc ?_ _)); exact BK129.out) hb)
             have n1_ := Aside0.mk (below_step (by repeat (first | (with_reducible first | exact HB.out | apply below_alloc | apply pw_below_drewN | apply below_drew1 | refine below_set ?_ GE129.out) | exact HB.out)) hb)
             clear BK129
             clear HB
             have BK129 := n0_
             have HB := n1_
             clear n0_ n1_
             (try clear hb)
             (try clear hb2)
             (try clear hk)
             (try clear hi)
             refine hK.out _ _ ⟨(blk_cell BK129.out 0).trans rfl, (blk_cell BK129.out 1).trans rfl, (blk_cell BK129.out 2).trans rfl, (blk_cell BK129.out 3).trans rfl, ((HB.out.cell (World.block_lt_of_cell? w _ hw130_0)).trans hw130_0), ((HB.out.cell (World.block_lt_of_cell? w _ hw130_1)).trans hw130_1), ((HB.out.cell (World.block_lt_of_cell? w _ hw130_2)).trans hw130_2), ((HB.out.cell (World.block_lt_of_cell? w _ hw130_3)).trans hw130_3)⟩ (fun hHeld => ?_)
             clear hK K
             refine norm_ (a' := ?_) ?_ ?_
             rotate_left
             ·show Act.put _ (some 42) _ = _
              simp only [Act.put, List.setIfInBounds_toArray, List.set_cons_zero, List.set_cons_succ, i64_w, i32_w]
              rfl
             refine pure_ (i := 27) (N := some 43) (v := ?_) (a' := ?_) ⟨mk_ 29 268435455⟩ rfl rfl (any_of HT_.out (by kernel_rfl)) (fun _ _ _ h => h) (Or.inl ⟨by rfl, ?_⟩) ?_ ?_
             rotate_left
             ·intro w'
              go_simp
              with_reducible rfl
             rotate_left
             ·simp only [Act.put, List.setIfInBounds_toArray, List.set_cons_zero, List.set_cons_succ, i64_w, i32_w]
              rfl
             refine pure_ (i := 28) (N := some 44) (v := ?_) (a' := ?_) ⟨mk_ 29 536870911⟩ rfl rfl (any_of HT_.out (by kernel_rfl)) (fun _ _ _ h => h) (Or.inl ⟨by rfl, ?_⟩) ?_ ?_
             rotate_left
             ·intro w'
              go_simp
              with_reducible rfl
             rotate_left
             ·simp only [Act.put, List.setIfInBounds_toArray, List.set_cons_zero, List.set_cons_succ, i64_w, i32_w]
              rfl
             refine done_ (done_of HT_.out (by kernel_rfl)) ?_
             try go_wp2
             go_meet
             case rel => exact ⟨_, (!t131), (by first | rfl | (simp; done) | (simp [*]; done)), H', ⟨by have := HK1.out; first | omega | exact Nat.le_refl _⟩, ⟨by (with_reducible repeat (first | refine blk_drewN ?_ _ | refine blk_drew ?_ | refine blk_alloc ?_ _)); exact BK129.out⟩, ⟨by repeat (first | (with_reducible first | exact HB.out | apply below_alloc | apply pw_below_drewN | apply below_drew1 | refine below_set ?_ GE129.out) | exact HB.out)⟩⟩
           ·rw [if_neg c17] at H
            exact absurd H (by simp)
          ·rw [if_neg c16] at H
           exact absurd H (by simp)
         ·rw [if_neg c14] at H
          have c14b0 : decide (0 < x11_1) = false := decide_eq_false c14
          clear c14
          replace H := Option.bind_eq_some_iff.mp H
          obtain ⟨t132, A250, H⟩ := H
          replace H : (tlv_measure.j1 k1 l0 x5_1 x11_1 l0 (l0.length : Int) x11_1 (!t132) ((rd_T53 l0 x11_1).f0) ((rd_T53 l0 x11_1).f1.f0) ((rd_T53 l0 x11_1).f1.f1) ((rd_T53 l0 x11_1).f1.f2)) = some (r1, r2, r3) := H
          have A25 := Aside0.mk A250
          clear A250
          have H' := Aside0.mk H
          clear H
          try go_wp2
          have n0_ : Aside0 (((((w6.setCell ⟨gb129, 0, none⟩ (.int .i64 ((rd_T53 l0 x11_1).f0))).setCell ⟨gb129, 1, none⟩ (.int .i64 ((rd_T53 l0 x11_1).f1.f0))).setCell ⟨gb129, 2, none⟩ (.int .u64 ((rd_T53 l0 x11_1).f1.f1))).setCell ⟨gb129, 3, none⟩ (.string ((rd_T53 l0 x11_1).f1.f2))).heap[gb129]? = some (.cells #[.int .i64 ((rd_T53 l0 x11_1).f0), .int .i64 ((rd_T53 l0 x11_1).f1.f0), .int .u64 ((rd_T53 l0 x11_1).f1.f1), .string ((rd_T53 l0 x11_1).f1.f2)] 53 (0, 0))) := ⟨by (with_reducible repeat (first | refine blk_drewN ?_ _ | refine blk_drew ?_ | refine blk_alloc ?_ _)); refine blk_put (cs := #[.int .i64 ((rd_T53 l0 x11_1).f0), .int .i64 ((rd_T53 l0 x11_1).f1.f0), .int .u64 ((rd_T53 l0 x11_1).f1.f1), .string (⟨#[]⟩ : ByteArray)]) ?_ 3 _ rfl; (with_reducible repeat (first | refine blk_drewN ?_ _ | refine blk_drew ?_ | refine blk_alloc ?_ _)); refine blk_put (cs := #[.int .i64 ((rd_T53 l0 x11_1).f0), .int .i64 ((rd_T53 l0 x11_1).f1.f0), .int .u64 0, .string (⟨#[]⟩ : ByteArray)]) ?_ 2 _ rfl; (with_reducible repeat (first | refine blk_drewN ?_ _ | refine blk_drew ?_ | refine blk_alloc ?_ _)); refine blk_put (cs := #[.int .i64 ((rd_T53 l0 x11_1).f0), .int .i64 0, .int .u64 0, .string (⟨#[]⟩ : ByteArray)]) ?_ 1 _ rfl; (with_reducible repeat (first | refine blk_drewN ?_ _ | refine blk_drew ?_ | refine blk_alloc ?_ _)); refine blk_put (cs := #[.int .i64 0, .int .i64 0, .int .u64 0, .string (⟨#[]⟩ : ByteArray)]) ?_ 0 _ rfl; (with_reducible repeat (first | refine blk_drewN ?_ _ | refine blk_drew ?_ | refine blk_alloc ?_ _)); exact BK129.out⟩
          have n1_ : Aside0 (Below w.heap.size w ((((w6.setCell ⟨gb129, 0, none⟩ (.int .i64 ((rd_T53 l0 x11_1).f0))).setCell ⟨gb129, 1, none⟩ (.int .i64 ((rd_T53 l0 x11_1).f1.f0))).setCell ⟨gb129, 2, none⟩ (.int .u64 ((rd_T53 l0 x11_1).f1.f1))).setCell ⟨gb129, 3, none⟩ (.string ((rd_T53 l0 x11_1).f1.f2)))) := ⟨by repeat (first | (with_reducible first | exact HB.out | apply below_alloc | apply pw_below_drewN | apply below_drew1 | refine below_set ?_ GE129.out) | exact HB.out)⟩
          (try clear BK129)
          (try clear HB)
          (try simp only [show ∀ (w_ : World) (n_ : Nat) (p_ : Addr) (u_ : Value), (w_.drewN n_).setCell p_ u_ = (w_.setCell p_ u_).drewN n_ from fun _ _ _ _ => rfl])
          generalize ((((w6.setCell ⟨gb129, 0, none⟩ (.int .i64 ((rd_T53 l0 x11_1).f0))).setCell ⟨gb129, 1, none⟩ (.int .i64 ((rd_T53 l0 x11_1).f1.f0))).setCell ⟨gb129, 2, none⟩ (.int .u64 ((rd_T53 l0 x11_1).f1.f1))).setCell ⟨gb129, 3, none⟩ (.string ((rd_T53 l0 x11_1).f1.f2))) = w26 at n0_ n1_ ⊢
          have BK129 := n0_
          have HB := n1_
          clear n0_ n1_
          have n0_ := Aside0.mk (blk_drew BK129.out)
          have n1_ := Aside0.mk (below_drew1 HB.out)
          clear BK129
          clear HB
          have BK129 := n0_
          have HB := n1_
          clear n0_ n1_
          refine start_ (n := 29) (S := fun w' => w'.cell? ⟨gb129, 0, none⟩ = some (.int .i64 ((rd_T53 l0 x11_1).f0)) ∧ w'.cell? ⟨gb129, 1, none⟩ = some (.int .i64 ((rd_T53 l0 x11_1).f1.f0)) ∧ w'.cell? ⟨gb129, 2, none⟩ = some (.int .u64 ((rd_T53 l0 x11_1).f1.f1)) ∧ w'.cell? ⟨gb129, 3, none⟩ = some (.string ((rd_T53 l0 x11_1).f1.f2))) (ds := []) ⟨mk_ 29 0⟩ (by kernel_rfl) rfl rfl ⟨(blk_cell BK129.out 0).trans rfl, (blk_cell BK129.out 1).trans rfl, (blk_cell BK129.out 2).trans rfl, (blk_cell BK129.out 3).trans rfl⟩ (fun hHeld => ?_); refine with_tabW tlv_measure.tab5 tlv_measure.bits5 (fun HT_ HW_ => ?_)
          generalize w26.drew = w27 at BK129 HB hHeld ⊢
          refine pure_ (i := 0) (N := some 16) (v := ?_) (a' := ?_) ⟨mk_ 29 1⟩ rfl rfl (any_of HT_.out (by kernel_rfl)) (fun _ _ _ h => h) (Or.inl ⟨by rfl, ?_⟩) ?_ ?_
          rotate_left
          ·intro w'
           go_simp
           with_reducible rfl
          rotate_left
          ·simp only [Act.put, List.setIfInBounds_toArray, List.set_cons_zero, List.set_cons_succ, i64_w, i32_w]
           rfl
          refine take_ (i := 1) (N := some 17) (v := ?_) (a' := ?_) ⟨mk_ 29 3⟩ rfl rfl (take_ofW HT_.out HW_.out (by kernel_rfl)) (fun _ _ _ h => h) (Or.inl ⟨by rfl, ?_⟩) hHeld ?_ ?_
          rotate_left
          ·rintro w' ⟨s0, s1, s2, s3⟩
           go_simp
           with_reducible rfl
          rotate_left
          ·simp only [Act.put, List.setIfInBounds_toArray, List.set_cons_zero, List.set_cons_succ, i64_w, i32_w]
           rfl
          refine pure_ (i := 2) (N := some 18) (v := ?_) (a' := ?_) ⟨mk_ 29 7⟩ rfl rfl (any_of HT_.out (by kernel_rfl)) (fun _ _ _ h => h) (Or.inl ⟨by rfl, ?_⟩) ?_ ?_
          rotate_left
          ·intro w'
           go_simp
           with_reducible rfl
          rotate_left
          ·simp only [Act.put, List.setIfInBounds_toArray, List.set_cons_zero, List.set_cons_succ, i64_w, i32_w]
           rfl
          refine pure_ (i := 3) (N := some 19) (v := ?_) (a' := ?_) ⟨mk_ 29 15⟩ rfl rfl (any_of HT_.out (by kernel_rfl)) (fun _ _ _ h => h) (Or.inl ⟨by rfl, ?_⟩) ?_ ?_
          rotate_left
          ·intro w'
           go_simp
           with_reducible rfl
          rotate_left
          ·simp only [Act.put, List.setIfInBounds_toArray, List.set_cons_zero, List.set_cons_succ, i64_w, i32_w]
           rfl
          refine pure_ (i := 4) (N := some 20) (v := ?_) (a' := ?_) ⟨mk_ 29 31⟩ rfl rfl (any_of HT_.out (by kernel_rfl)) (fun _ _ _ h => h) (Or.inl ⟨by rfl, ?_⟩) ?_ ?_
          rotate_left
          ·intro w'
           go_simp
           with_reducible rfl
          rotate_left
          ·simp only [Act.put, List.setIfInBounds_toArray, List.set_cons_zero, List.set_cons_succ, i64_w, i32_w]
           rfl
          refine take_ (i := 5) (N := some 21) (v := ?_) (a' := ?_) ⟨mk_ 29 63⟩ rfl rfl (take_ofW HT_.out HW_.out (by kernel_rfl)) (fun _ _ _ h => h) (Or.inl ⟨by rfl, ?_⟩) hHeld ?_ ?_
          rotate_left
          ·rintro w' ⟨s0, s1, s2, s3⟩
           go_simp
           with_reducible rfl
          rotate_left
          ·simp only [Act.put, List.setIfInBounds_toArray, List.set_cons_zero, List.set_cons_succ, i64_w, i32_w]
           rfl
          refine pure_ (i := 6) (N := some 22) (v := ?_) (a' := ?_) ⟨mk_ 29 127⟩ rfl rfl (any_of HT_.out (by kernel_rfl)) (fun _ _ _ h => h) (Or.inl ⟨by rfl, ?_⟩) ?_ ?_
          rotate_left
          ·intro w'
           go_simp
           with_reducible rfl
          rotate_left
          ·simp only [Act.put, List.setIfInBounds_toArray, List.set_cons_zero, List.set_cons_succ, i64_w, i32_w]
           rfl
          refine pure_ (i := 7) (N := some 23) (v := ?_) (a' := ?_) ⟨mk_ 29 255⟩ rfl rfl (any_of HT_.out (by kernel_rfl)) (fun _ _ _ h => h) (Or.inl ⟨by rfl, ?_⟩) ?_ ?_
          rotate_left
          ·intro w'
           go_simp
           with_reducible rfl
          rotate_left
          ·simp only [Act.put, List.setIfInBounds_toArray, List.set_cons_zero, List.set_cons_succ, i64_w, i32_w]
           rfl
          refine pure_ (i := 8) (N := some 24) (v := ?_) (a' := ?_) ⟨mk_ 29 511⟩ rfl rfl (any_of HT_.out (by kernel_rfl)) (fun _ _ _ h => h) (Or.inl ⟨by rfl, ?_⟩) ?_ ?_
          rotate_left
          ·intro w'
           go_simp
           with_reducible rfl
          rotate_left
          ·simp only [Act.put, List.setIfInBounds_toArray, List.set_cons_zero, List.set_cons_succ, i64_w, i32_w]
           rfl
          refine pure_ (i := 9) (N := some 25) (v := ?_) (a' := ?_) ⟨mk_ 29 1023⟩ rfl rfl (any_of HT_.out (by kernel_rfl)) (fun _ _ _ h => h) (Or.inl ⟨by rfl, ?_⟩) ?_ ?_
          rotate_left
          ·intro w'
           go_simp
           with_reducible rfl
          rotate_left
          ·simp only [Act.put, List.setIfInBounds_toArray, List.set_cons_zero, List.set_cons_succ, i64_w, i32_w]
           rfl
          refine pure_ (i := 10) (N := some 26) (v := ?_) (a' := ?_) ⟨mk_ 29 2047⟩ rfl rfl (any_of HT_.out (by kernel_rfl)) (fun _ _ _ h => h) (Or.inl ⟨by rfl, ?_⟩) ?_ ?_
          rotate_left
          ·intro w'
           go_simp
           with_reducible rfl
          rotate_left
          ·simp only [Act.put, List.setIfInBounds_toArray, List.set_cons_zero, List.set_cons_succ, i64_w, i32_w]
           rfl
          refine pure_ (i := 11) (N := some 27) (v := ?_) (a' := ?_) ⟨mk_ 29 4095⟩ rfl rfl (any_of HT_.out (by kernel_rfl)) (fun _ _ _ h => h) (Or.inl ⟨by rfl, ?_⟩) ?_ ?_
          rotate_left
          ·intro w'
           go_simp
           with_reducible rfl
          rotate_left
          ·simp only [Act.put, List.setIfInBounds_toArray, List.set_cons_zero, List.set_cons_succ, i64_w, i32_w]
           rfl
          refine pure_ (i := 12) (N := some 28) (v := undef) (a' := ?_) ⟨mk_ 29 8191⟩ rfl rfl (any_of HT_.out (by kernel_rfl)) (fun _ _ _ h => h) (Or.inr ⟨by rfl, rfl⟩) ?_ ?_
          rotate_left
          ·simp only [Act.put, List.setIfInBounds_toArray, List.set_cons_zero, List.set_cons_succ, i64_w, i32_w]
           rfl
          refine pure_ (i := 13) (N := some 29) (v := undef) (a' := ?_) ⟨mk_ 29 16383⟩ rfl rfl (any_of HT_.out (by kernel_rfl)) (fun _ _ _ h => h) (Or.inr ⟨by rfl, rfl⟩) ?_ ?_
          rotate_left
          ·simp only [Act.put, List.setIfInBounds_toArray, List.set_cons_zero, List.set_cons_succ, i64_w, i32_w]
           rfl
          refine pure_ (i := 14) (N := some 30) (v := undef) (a' := ?_) ⟨mk_ 29 32767⟩ rfl rfl (any_of HT_.out (by kernel_rfl)) (fun _ _ _ h => h) (Or.inr ⟨by rfl, rfl⟩) ?_ ?_
          rotate_left
          ·simp only [Act.put, List.setIfInBounds_toArray, List.set_cons_zero, List.set_cons_succ, i64_w, i32_w]
           rfl
          refine pure_ (i := 15) (N := some 31) (v := undef) (a' := ?_) ⟨mk_ 29 65535⟩ rfl rfl (any_of HT_.out (by kernel_rfl)) (fun _ _ _ h => h) (Or.inr ⟨by rfl, rfl⟩) ?_ ?_
          rotate_left
          ·simp only [Act.put, List.setIfInBounds_toArray, List.set_cons_zero, List.set_cons_succ, i64_w, i32_w]
           rfl
          refine pure_ (i := 16) (N := some 32) (v := undef) (a' := ?_) ⟨mk_ 29 131071⟩ rfl rfl (any_of HT_.out (by kernel_rfl)) (fun _ _ _ h => h) (Or.inr ⟨by rfl, rfl⟩) ?_ ?_
          rotate_left
          ·simp only [Act.put, List.setIfInBounds_toArray, List.set_cons_zero, List.set_cons_succ, i64_w, i32_w]
           rfl
          refine pure_ (i := 17) (N := some 33) (v := undef) (a' := ?_) ⟨mk_ 29 262143⟩ rfl rfl (any_of HT_.out (by kernel_rfl)) (fun _ _ _ h => h) (Or.inr ⟨by rfl, rfl⟩) ?_ ?_
          rotate_left
          ·simp only [Act.put, List.setIfInBounds_toArray, List.set_cons_zero, List.set_cons_succ, i64_w, i32_w]
           rfl
          refine pure_ (i := 18) (N := some 34) (v := undef) (a' := ?_) ⟨mk_ 29 524287⟩ rfl rfl (any_of HT_.out (by kernel_rfl)) (fun _ _ _ h => h) (Or.inr ⟨by rfl, rfl⟩) ?_ ?_
          rotate_left
          ·simp only [Act.put, List.setIfInBounds_toArray, List.set_cons_zero, List.set_cons_succ, i64_w, i32_w]
           rfl
          refine pure_ (i := 19) (N := some 35) (v := undef) (a' := ?_) ⟨mk_ 29 1048575⟩ rfl rfl (any_of HT_.out (by kernel_rfl)) (fun _ _ _ h => h) (Or.inr ⟨by rfl, rfl⟩) ?_ ?_
          rotate_left
          ·simp only [Act.put, List.setIfInBounds_toArray, List.set_cons_zero, List.set_cons_succ, i64_w, i32_w]
           rfl
          refine pure_ (i := 20) (N := some 36) (v := undef) (a' := ?_) ⟨mk_ 29 2097151⟩ rfl rfl (any_of HT_.out (by kernel_rfl)) (fun _ _ _ h => h) (Or.inr ⟨by rfl, rfl⟩) ?_ ?_
          rotate_left
          ·simp only [Act.put, List.setIfInBounds_toArray, List.set_cons_zero, List.set_cons_succ, i64_w, i32_w]
           rfl
          refine pure_ (i := 21) (N := some 37) (v := ?_) (a' := ?_) ⟨mk_ 29 4194303⟩ rfl rfl (any_of HT_.out (by kernel_rfl)) (fun _ _ _ h => h) (Or.inl ⟨by rfl, ?_⟩) ?_ ?_
          rotate_left
          ·intro w'
           go_simp
           with_reducible rfl
          rotate_left
          ·simp only [Act.put, List.setIfInBounds_toArray, List.set_cons_zero, List.set_cons_succ, i64_w, i32_w]
           rfl
          refine pure_ (i := 22) (N := some 38) (v := ?_) (a' := ?_) ⟨mk_ 29 8388607⟩ rfl rfl (any_of HT_.out (by kernel_rfl)) (fun _ _ _ h => h) (Or.inl ⟨by rfl, ?_⟩) ?_ ?_
          rotate_left
          ·intro w'
           go_simp
           with_reducible rfl
          rotate_left
          ·simp only [Act.put, List.setIfInBounds_toArray, List.set_cons_zero, List.set_cons_succ, i64_w, i32_w]
           rfl
          refine pure_ (i := 23) (N := some 39) (v := ?_) (a' := ?_) ⟨mk_ 29 16777215⟩ rfl rfl (any_of HT_.out (by kernel_rfl)) (fun _ _ _ h => h) (Or.inl ⟨by rfl, ?_⟩) ?_ ?_
          rotate_left
          ·intro w'
           go_simp
           with_reducible rfl
          rotate_left
          ·simp only [Act.put, List.setIfInBounds_toArray, List.set_cons_zero, List.set_cons_succ, i64_w, i32_w]
           rfl
          refine pure_ (i := 24) (N := some 40) (v := ?_) (a' := ?_) ⟨mk_ 29 33554431⟩ rfl rfl (any_of HT_.out (by kernel_rfl)) (fun _ _ _ h => h) (Or.inl ⟨by rfl, ?_⟩) ?_ ?_
          rotate_left
          ·intro w'
           go_simp
           with_reducible rfl
          rotate_left
          ·simp only [Act.put, List.setIfInBounds_toArray, List.set_cons_zero, List.set_cons_succ, i64_w, i32_w]
           rfl
          refine take_ (i := 25) (N := some 41) (v := ?_) (a' := ?_) ⟨mk_ 29 67108863⟩ rfl rfl (take_ofW HT_.out HW_.out (by kernel_rfl)) (fun _ _ _ h => h) (Or.inl ⟨by rfl, ?_⟩) hHeld ?_ ?_
          rotate_left
          ·rintro w' ⟨s0, s1, s2, s3⟩
           go_simp
           with_reducible rfl
          rotate_left
          ·simp only [Act.put, List.setIfInBounds_toArray, List.set_cons_zero, List.set_cons_succ, i64_w, i32_w]
           rfl
          refine one_ (i := 26) (N := some 42) ⟨mk_ 29 134217727⟩ rfl rfl (one_of HT_.out (by kernel_rfl)) (by decide) (fun K hK => ?_)
          refine goes_ Try.func42 (by kernel_rfl) rfl #[.agg #[.int .i64 ((rd_T53 l0 x11_1).f1.f0), .int .u64 ((rd_T53 l0 x11_1).f1.f1), .string ((rd_T53 l0 x11_1).f1.f2)]] (by rfl) rfl rfl (by (try simp only [List.map_toArray, List.map_cons, List.map_nil]); first | done | rfl | (simp only [List.length_drop, List.length_take]; rfl)) ?_
          with_reducible refine (kind_Valid.calls k1 ((rd_T53 l0 x11_1).f1.f0) ((rd_T53 l0 x11_1).f1.f1) ((rd_T53 l0 x11_1).f1.f2) t132 _ A25.out).mono ?_
          rintro e w28 ⟨rfl, hb⟩
          refine ⟨_, rfl, ?_⟩
          have n0_ := Aside0.mk (blk_below (g := gb129) (o := .cells #[.int .i64 ((rd_T53 l0 x11_1).f0), .int .i64 ((rd_T53 l0 x11_1).f1.f0), .int .u64 ((rd_T53 l0 x11_1).f1.f1), .string ((rd_T53 l0 x11_1).f1.f2)] 53 (0, 0)) (by (with_reducible repeat (first | refine blk_drewN ?_ _ | refine blk_drew ?_ | refine blk_alloc ?_ _)); exact BK129.out) hb)
          have n1_ := Aside0.mk (below_step (by repeat (first | (with_reducible first | exact HB.out | apply below_alloc | apply pw_below_drewN | apply below_drew1 | refine below_set ?_ GE129.out) | exact HB.out)) hb)
          clear BK129
          clear HB
          have BK129 := n0_
          have HB := n1_
          clear n0_ n1_
          (try clear hb)
          (try clear hb2)
          (try clear hk)
          (try clear hi)
          refine hK.out _ _ ⟨(blk_cell BK129.out 0).trans rfl, (blk_cell BK129.out 1).trans rfl, (blk_cell BK129.out 2).trans rfl, (blk_cell BK129.out 3).trans rfl⟩ (fun hHeld => ?_)
          clear hK K
          refine norm_ (a' := ?_) ?_ ?_
          rotate_left
          ·show Act.put _ (some 42) _ = _
           simp only [Act.put, List.setIfInBounds_toArray, List.set_cons_zero, List.set_cons_succ, i64_w, i32_w]
           rfl
          refine pure_ (i := 27) (N := some 43) (v := ?_) (a' := ?_) ⟨mk_ 29 268435455⟩ rfl rfl (any_of HT_.out (by kernel_rfl)) (fun _ _ _ h => h) (Or.inl ⟨by rfl, ?_⟩) ?_ ?_
          rotate_left
          ·intro w'
           go_simp
           with_reducible rfl
          rotate_left
          ·simp only [Act.put, List.setIfInBounds_toArray, List.set_cons_zero, List.set_cons_succ, i64_w, i32_w]
           rfl
          refine pure_ (i := 28) (N := some 44) (v := ?_) (a' := ?_) ⟨mk_ 29 536870911⟩ rfl rfl (any_of HT_.out (by kernel_rfl)) (fun _ _ _ h => h) (Or.inl ⟨by rfl, ?_⟩) ?_ ?_
          rotate_left
          ·intro w'
           go_simp
           with_reducible rfl
          rotate_left
          ·simp only [Act.put, List.setIfInBounds_toArray, List.set_cons_zero, List.set_cons_succ, i64_w, i32_w]
           rfl
          refine done_ (done_of HT_.out (by kernel_rfl)) ?_
          try go_wp2
          go_meet
          case rel => exact ⟨_, (!t132), (by first | rfl | (simp; done) | (simp [*]; done)), H', ⟨by have := HK1.out; first | omega | exact Nat.le_refl _⟩, ⟨by (with_reducible repeat (first | refine blk_drewN ?_ _ | refine blk_drew ?_ | refine blk_alloc ?_ _)); exact BK129.out⟩, ⟨by repeat (first | (with_reducible first | exact HB.out | apply below_alloc | apply pw_below_drewN | apply below_drew1 | refine below_set ?_ GE129.out) | exact HB.out)⟩⟩
      case rest =>
       clear HC5
       try clear c1
       try clear p1
       try clear q1
       try clear hx1
       try clear p2
       try clear c4
       try clear p13
       try clear q13
       try clear hx13
       try clear c14
       try clear c14b0
       try clear c16
       try clear c17
       try clear c18
       try clear c18b0
       try clear hx130_0
       try clear hx130_1
       try clear hx130_2
       try clear hx130_3
       try clear p130
       try clear q130
       obtain ⟨kq, x44_4, rfl, HA, HJ4, BK129, HB⟩ := hcut
       cases kq with
       | zero => exact absurd HA.out (by simp [tlv_measure.j1])
       | succ kj4 =>
        have H := HA.out
        clear HA
        simp only [tlv_measure.j1] at H
        by_cases c29 : x44_4 = true
        ·subst c29
         have H1 : (some (0, x11_1, 1)) = some (r1, r2, r3) := by rw [if_pos rfl] at H; exact H
         clear H
         have H := H1
         clear H1
         simp only [Option.some.injEq, Prod.mk.injEq] at H
         obtain ⟨rfl, rfl, rfl⟩ := H
         go_wp2
         go_ret3
         exact ⟨by first | rfl | (simp [errW_none, errW_some] <;> rfl) | (simp [*, errW_none, errW_some] <;> rfl), by repeat (first | (with_reducible first | exact HB.out | apply below_alloc | apply pw_below_drewN | apply below_drew1 | refine below_set ?_ GE129.out) | exact HB.out)⟩
        ·replace c29 := Bool.eq_false_iff.mpr c29
         subst c29
         have H1 : ((tlv_length.f kj4 ((rd_T53 l0 x11_1).f1.f0) ((rd_T53 l0 x11_1).f1.f1) ((rd_T53 l0 x11_1).f1.f2)).bind fun t133 => ((tlv_key.f ((rd_T53 l0 x11_1).f0) ((rd_T53 l0 x11_1).f1.f0) ((rd_T53 l0 x11_1).f1.f1) ((rd_T53 l0 x11_1).f1.f2)).bind fun t134 => ((varint_Size.f kj4 t134).bind fun t135 => ((varint_Size.f kj4 (IntKind.u64.wrap (t133))).bind fun t136 => (tlv_measure.l0 kj4 l0 (wrap64 (x5_1 + (wrap64 ((wrap64 (t135 + t136)) + t133)))) l0 (l0.length : Int) (wrap64 (x11_1 + 1))))))) = some (r1, r2, r3) := by rw [if_neg (show ¬ (false = true) by decide)] at H; exact H
         clear H
         have H := H1
         clear H1
         replace H := Option.bind_eq_some_iff.mp H
         obtain ⟨t133, A300, H⟩ := H
         replace H : ((tlv_key.f ((rd_T53 l0 x11_1).f0) ((rd_T53 l0 x11_1).f1.f0) ((rd_T53 l0 x11_1).f1.f1) ((rd_T53 l0 x11_1).f1.f2)).bind fun t134 => ((varint_Size.f kj4 t134).bind fun t135 => ((varint_Size.f kj4 (IntKind.u64.wrap (t133))).bind fun t136 => (tlv_measure.l0 kj4 l0 (wrap64 (x5_1 + (wrap64 ((wrap64 (t135 + t136)) + t133)))) l0 (l0.length : Int) (wrap64 (x11_1 + 1)))))) = some (r1, r2, r3) := H
         have A30 := Aside0.mk A300
         clear A300
         replace H := Option.bind_eq_some_iff.mp H
         obtain ⟨t134, A310, H⟩ := H
         replace H : ((varint_Size.f kj4 t134).bind fun t135 => ((varint_Size.f kj4 (IntKind.u64.wrap (t133))).bind fun t136 => (tlv_measure.l0 kj4 l0 (wrap64 (x5_1 + (wrap64 ((wrap64 (t135 + t136)) + t133)))) l0 (l0.length : Int) (wrap64 (x11_1 + 1))))) = some (r1, r2, r3) := H
         have A31 := Aside0.mk A310
         clear A310
         replace H := Option.bind_eq_some_iff.mp H
         obtain ⟨t135, A320, H⟩ := H
         replace H : ((varint_Size.f kj4 (IntKind.u64.wrap (t133))).bind fun t136 => (tlv_measure.l0 kj4 l0 (wrap64 (x5_1 + (wrap64 ((wrap64 (t135 + t136)) + t133)))) l0 (l0.length : Int) (wrap64 (x11_1 + 1)))) = some (r1, r2, r3) := H
         have A32 := Aside0.mk A320
         clear A320
         replace H := Option.bind_eq_some_iff.mp H
         obtain ⟨t136, A330, H⟩ := H
         replace H : (tlv_measure.l0 kj4 l0 (wrap64 (x5_1 + (wrap64 ((wrap64 (t135 + t136)) + t133)))) l0 (l0.length : Int) (wrap64 (x11_1 + 1))) = some (r1, r2, r3) := H
         have A33 := Aside0.mk A330
         clear A330
         have H' := Aside0.mk H
         clear H
         have hcz34_0 : wc.cell? ⟨gb129, 0, none⟩ = some (.int .i64 ((rd_T53 l0 x11_1).f0)) := (blk_cell BK129.out 0).trans rfl
         have hcz34_1 : wc.cell? ⟨gb129, 1, none⟩ = some (.int .i64 ((rd_T53 l0 x11_1).f1.f0)) := (blk_cell BK129.out 1).trans rfl
         have hcz34_2 : wc.cell? ⟨gb129, 2, none⟩ = some (.int .u64 ((rd_T53 l0 x11_1).f1.f1)) := (blk_cell BK129.out 2).trans rfl
         have hcz34_3 : wc.cell? ⟨gb129, 3, none⟩ = some (.string ((rd_T53 l0 x11_1).f1.f2)) := (blk_cell BK129.out 3).trans rfl
         have hfz34_0 := blk_frozen BK129.out 0
         have hfz34_1 := blk_frozen BK129.out 1
         have hfz34_2 := blk_frozen BK129.out 2
         have hfz34_3 := blk_frozen BK129.out 3
         go_wp2_with (first | ((with_reducible refine gate_callee (f := 74) rfl ?_); refine goesL_ (some 48) rfl rfl Try.func74 (by kernel_rfl) rfl #[.agg #[.int .i64 ((rd_T53 l0 x11_1).f1.f0), .int .u64 ((rd_T53 l0 x11_1).f1.f1), .string ((rd_T53 l0 x11_1).f1.f2)]] rfl (by (try simp only [List.map_toArray, List.map_cons, List.map_nil]); first | done | rfl | (simp only [List.length_drop, List.length_take]; rfl)) ?_; (with_reducible refine (tlv_length.calls kj4 ((rd_T53 l0 x11_1).f1.f0) ((rd_T53 l0 x11_1).f1.f1) ((rd_T53 l0 x11_1).f1.f2) t133 _ A30.out).mono ?_); rintro e w35 ⟨rfl, hb⟩; refine ⟨_, rfl, ?_⟩; have n0_ := Aside0.mk (blk_below (g := gb129) (o := .cells #[.int .i64 ((rd_T53 l0 x11_1).f0), .int .i64 ((rd_T53 l0 x11_1).f1.f0), .int .u64 ((rd_T53 l0 x11_1).f1.f1), .string ((rd_T53 l0 x11_1).f1.f2)] 53 (0, 0)) (by (with_reducible repeat (first | refine blk_drewN ?_ _ | refine blk_drew ?_ | refine blk_alloc ?_ _)); exact BK129.out) hb); have n1_ := Aside0.mk (below_step (by repeat (first | (with_reducible first | exact HB.out | apply below_alloc | apply pw_below_drewN | apply below_drew1 | refine below_set ?_ GE129.out) | exact HB.out)) hb); clear BK129; clear HB; have BK129 := n0_; have HB := n1_; clear n0_ n1_; (try clear hb); (try clear hb2); (try clear hk); (try clear hi); have hcz36_0 : w35.cell? ⟨gb129, 0, none⟩ = some (.int .i64 ((rd_T53 l0 x11_1).f0)) := (blk_cell BK129.out 0).trans rfl; have hcz36_1 : w35.cell? ⟨gb129, 1, none⟩ = some (.int .i64 ((rd_T53 l0 x11_1).f1.f0)) := (blk_cell BK129.out 1).trans rfl; have hcz36_2 : w35.cell? ⟨gb129, 2, none⟩ = some (.int .u64 ((rd_T53 l0 x11_1).f1.f1)) := (blk_cell BK129.out 2).trans rfl; have hcz36_3 : w35.cell? ⟨gb129, 3, none⟩ = some (.string ((rd_T53 l0 x11_1).f1.f2)) := (blk_cell BK129.out 3).trans rfl; have hfz36_0 := blk_frozen BK129.out 0; have hfz36_1 := blk_frozen BK129.out 1; have hfz36_2 := blk_frozen BK129.out 2; have hfz36_3 := blk_frozen BK129.out 3) | ((with_reducible refine gate_callee (f := 65) rfl ?_); refine goesL_ (some 51) rfl rfl Try.func65 (by kernel_rfl) rfl #[.agg #[.int .i64 ((rd_T53 l0 x11_1).f0), .int .i64 ((rd_T53 l0 x11_1).f1.f0), .int .u64 ((rd_T53 l0 x11_1).f1.f1), .string ((rd_T53 l0 x11_1).f1.f2)]] rfl (by (try simp only [List.map_toArray, List.map_cons, List.map_nil]); first | done | rfl | (simp only [List.length_drop, List.length_take]; rfl)) ?_; (with_reducible refine (tlv_key.calls ((rd_T53 l0 x11_1).f0) ((rd_T53 l0 x11_1).f1.f0) ((rd_T53 l0 x11_1).f1.f1) ((rd_T53 l0 x11_1).f1.f2) t134 _ A31.out).mono ?_); rintro e w37 ⟨rfl, hb⟩; refine ⟨_, rfl, ?_⟩; have n0_ := Aside0.mk (blk_below (g := gb129) (o := .cells #[.int .i64 ((rd_T53 l0 x11_1).f0), .int .i64 ((rd_T53 l0 x11_1).f1.f0), .int .u64 ((rd_T53 l0 x11_1).f1.f1), .string ((rd_T53 l0 x11_1).f1.f2)] 53 (0, 0)) (by (with_reducible repeat (first | refine blk_drewN ?_ _ | refine blk_drew ?_ | refine blk_alloc ?_ _)); exact BK129.out) hb); have n1_ := Aside0.mk (below_step (by repeat (first | (with_reducible first | exact HB.out | apply below_alloc | apply pw_below_drewN | apply below_drew1 | refine below_set ?_ GE129.out) | exact HB.out)) hb); clear BK129; clear HB; have BK129 := n0_; have HB := n1_; clear n0_ n1_; (try clear hb); (try clear hb2); (try clear hk); (try clear hi)) | ((with_reducible refine gate_callee (f := 70) rfl ?_); refine goesL_ (some 52) rfl rfl Try.func70 (by kernel_rfl) rfl #[.int .u64 t134] rfl (by (try simp only [List.map_toArray, List.map_cons, List.map_nil]); first | done | rfl | (simp only [List.length_drop, List.length_take]; rfl)) ?_; (with_reducible refine (varint_Size.calls kj4 t134 t135 _ A32.out).mono ?_); rintro e w' ⟨rfl, ⟨nd, rfl⟩⟩; refine ⟨_, rfl, ?_⟩) | ((with_reducible refine gate_callee (f := 70) rfl ?_); refine goesL_ (some 55) rfl rfl Try.func70 (by kernel_rfl) rfl #[.int .u64 (IntKind.u64.wrap (t133))] rfl (by (try simp only [List.map_toArray, List.map_cons, List.map_nil]); first | done | rfl | (simp only [List.length_drop, List.length_take]; rfl)) ?_; (with_reducible refine (varint_Size.calls kj4 (IntKind.u64.wrap (t133)) t136 _ A33.out).mono ?_); rintro e w' ⟨rfl, ⟨nd, rfl⟩⟩; refine ⟨_, rfl, ?_⟩))
         go_roundg kj4
         case measure => have := HK1.out; have := HJ4.out; omega
         case rel => exact ⟨(wrap64 (x5_1 + (wrap64 ((wrap64 (t135 + t136)) + t133)))), (wrap64 (x11_1 + 1)), (by first | rfl | (simp; done) | (simp [*]; done)), (by first | rfl | (simp; done) | (simp [*]; done)), H', ⟨by have := HK1.out; have := HJ4.out; omega⟩, ⟨by repeat (first | (with_reducible first | exact HB.out | apply below_alloc | apply pw_below_drewN | apply below_drew1 | refine below_set ?_ GE129.out) | exact HB.out)⟩⟩
     ·rw [if_neg c4] at H
      exact absurd H (by simp)
    ·rw [if_neg c3] at H
     exact absurd H (by simp)
   ·rw [if_neg c2] at H
    have c2b0 : decide (x11_1 < (l0.length : Int)) = false := decide_eq_false c2
    clear c2
    by_cases c38 : x5_1 > 16777215
    ·rw [if_pos c38] at H
     have c38b0 : decide (16777215 < x5_1) = true := decide_eq_true c38
     clear c38
     simp only [Option.some.injEq, Prod.mk.injEq] at H
     obtain ⟨rfl, rfl, rfl⟩ := H
     go_wp2
     go_ret3
     exact ⟨by first | rfl | (simp [errW_none, errW_some] <;> rfl) | (simp [*, errW_none, errW_some] <;> rfl), by repeat (first | (with_reducible first | exact HB.out | apply below_alloc | apply pw_below_drewN | apply below_drew1) | exact HB.out)⟩
    ·rw [if_neg c38] at H
     have c38b0 : decide (16777215 < x5_1) = false := decide_eq_false c38
     clear c38
     simp only [Option.some.injEq, Prod.mk.injEq] at H
     obtain ⟨rfl, rfl, rfl⟩ := H
     go_wp2
     go_ret3
     exact ⟨by first | rfl | (simp [errW_none, errW_some] <;> rfl) | (simp [*, errW_none, errW_some] <;> rfl), by repeat (first | (with_reducible first | exact HB.out | apply below_alloc | apply pw_below_drewN | apply below_drew1) | exact HB.out)⟩
end Go.Proofs.Yteejpfemaedmkaa.X
