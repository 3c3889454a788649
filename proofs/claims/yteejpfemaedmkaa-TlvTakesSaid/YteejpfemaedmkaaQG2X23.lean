-- Written by wip/printx.py: the kit's printer with functions proved by hand. Not trusted: Lean checks it.
import Derived.Test.YteejpfemaedmkaaQG2X0
import Derived.Test.YteejpfemaedmkaaQG2X5
import Derived.Test.YteejpfemaedmkaaQG2X22
namespace Go.Proofs.Yteejpfemaedmkaa.X
open Go.RowKit Go.Proofs.YteejpfemaedmkaaW.PrintWords Go.Proofs.YteejpfemaedmkaaW.PrintLast Go.Proofs.YteejpfemaedmkaaW.PrintMore
attribute [local go_sem] max2_int min2_int max_two min_two max_three min_three max_four min_four
set_option linter.unusedVariables false
set_option linter.unusedSimpArgs false
attribute [local go_sem] vx_gtr vx_leq vx_geq
mutual
def tlv_value.j0 : Nat → Int → List Int → Int → Bool → Int → Int → ByteArray → Option (Int × Int × ByteArray × Bool)
 | 0, _, _, _, _, _, _, _ => none
 | k + 1, x0, x1, x12, x16, x504000, x504001, x504002 => if x16 = true then ((varint_Take.f k x1).bind fun bt506 => (if bt506.2.2 = 0 then (tlv_value.j1 k x0 bt506.1 (bt506.2.1 != (x1.length : Int)) x504000 x504001 x504002) else (tlv_value.j1 k x0 bt506.1 true x504000 x504001 x504002))) else ((kind_Bool.f).bind fun t513 => (if x12 = t513 then (if (x1.length : Int) = 1 then (if 0 < (x1.length : Int) then ((kind_Valid.f k x504000 (IntKind.u64.wrap (rd x1 0)) x504002).bind fun t515 => (some (x504000, IntKind.u64.wrap (rd x1 0), x504002, t515))) else (none)) else (some (x504000, x504001, x504002, false))) else ((kind_Valid.f k x504000 x504001 (strOfNums x1)).bind fun t516 => (some (x504000, x504001, strOfNums x1, t516)))))
def tlv_value.j1 : Nat → Int → Int → Bool → Int → Int → ByteArray → Option (Int × Int × ByteArray × Bool)
 | 0, _, _, _, _, _, _ => none
 | k + 1, x0, x7, x34, x504000, x504001, x504002 => if x34 = true then (some (x504000, x504001, x504002, false)) else ((kind_Int.f).bind fun t509 => (if x0 = t509 then ((varint_Zag.f x7).bind fun t510 => ((kind_Valid.f k x504000 (IntKind.u64.wrap (t510)) x504002).bind fun t511 => (some (x504000, IntKind.u64.wrap (t510), x504002, t511)))) else ((kind_Valid.f k x504000 x7 x504002).bind fun t512 => (some (x504000, x7, x504002, t512)))))
end
def tlv_value.f (k : Nat) (a0 : Int) (l1 : List Int) : Option (Int × Int × ByteArray × Bool) := (kind_Uint.f).bind fun t504 => (if a0 = t504 then (tlv_value.j0 k a0 l1 a0 (a0 == t504) a0 0 (⟨#[]⟩ : ByteArray)) else ((kind_Int.f).bind fun t505 => (tlv_value.j0 k a0 l1 a0 (a0 == t505) a0 0 (⟨#[]⟩ : ByteArray))))
theorem tlv_value.mono_l : ∀ k, (∀ y0 y1 y2 y3 y4 y5 y6, LeO (tlv_value.j0 k y0 y1 y2 y3 y4 y5 y6) (tlv_value.j0 (k + 1) y0 y1 y2 y3 y4 y5 y6)) ∧ (∀ y0 y1 y2 y3 y4 y5, LeO (tlv_value.j1 k y0 y1 y2 y3 y4 y5) (tlv_value.j1 (k + 1) y0 y1 y2 y3 y4 y5))
 | 0 => ⟨fun _ _ _ _ _ _ _ r h => by simp [tlv_value.j0] at h, fun _ _ _ _ _ _ r h => by simp [tlv_value.j1] at h⟩
 | k + 1 => by
  obtain ⟨ih0, ih1⟩ := tlv_value.mono_l k
  refine ⟨?_, ?_⟩
  ·intro y0 y1 y2 y3 y4 y5 y6
   unfold tlv_value.j0
   repeat' first
   | (with_reducible exact ih0 _ _ _ _ _ _ _)
   | (with_reducible exact ih1 _ _ _ _ _ _)
   | (with_reducible exact kind_Valid.mono _ _ _ _)
   | (with_reducible exact varint_Take.mono _ _)
   | (with_reducible exact LeO.refl _)
   | (with_reducible exact LeO.none _)
   | (with_reducible refine LeO.ite ?_ ?_)
   | (with_reducible refine LeO.bind ?_ (fun _ => ?_))
   | exact ih0 _ _ _ _ _ _ _
   | exact ih1 _ _ _ _ _ _
   | exact kind_Valid.mono _ _ _ _
   | exact varint_Take.mono _ _
   | exact LeO.none _
   | refine LeO.ite ?_ ?_
   | refine LeO.bind ?_ (fun _ => ?_)
  ·intro y0 y1 y2 y3 y4 y5
   unfold tlv_value.j1
   repeat' first
   | (with_reducible exact ih0 _ _ _ _ _ _ _)
   | (with_reducible exact ih1 _ _ _ _ _ _)
   | (with_reducible exact kind_Valid.mono _ _ _ _)
   | (with_reducible exact varint_Take.mono _ _)
   | (with_reducible exact LeO.refl _)
   | (with_reducible exact LeO.none _)
   | (with_reducible refine LeO.ite ?_ ?_)
   | (with_reducible refine LeO.bind ?_ (fun _ => ?_))
   | exact ih0 _ _ _ _ _ _ _
   | exact ih1 _ _ _ _ _ _
   | exact kind_Valid.mono _ _ _ _
   | exact varint_Take.mono _ _
   | exact LeO.none _
   | refine LeO.ite ?_ ?_
   | refine LeO.bind ?_ (fun _ => ?_)
theorem tlv_value.mono : ∀ a0 a1 k, LeO (tlv_value.f k a0 a1) (tlv_value.f (k + 1) a0 a1) := by
 intro a0 a1 k
 obtain ⟨ih0, ih1⟩ := tlv_value.mono_l k
 unfold tlv_value.f
 repeat' first
   | (with_reducible exact ih0 _ _ _ _ _ _ _)
   | (with_reducible exact ih1 _ _ _ _ _ _)
   | (with_reducible exact kind_Valid.mono _ _ _ _)
   | (with_reducible exact varint_Take.mono _ _)
   | (with_reducible exact LeO.refl _)
   | (with_reducible exact LeO.none _)
   | (with_reducible refine LeO.ite ?_ ?_)
   | (with_reducible refine LeO.bind ?_ (fun _ => ?_))
   | exact ih0 _ _ _ _ _ _ _
   | exact ih1 _ _ _ _ _ _
   | exact kind_Valid.mono _ _ _ _
   | exact varint_Take.mono _ _
   | exact LeO.none _
   | refine LeO.ite ?_ ?_
   | refine LeO.bind ?_ (fun _ => ?_)
set_option maxHeartbeats 8000000 in
set_option maxRecDepth 100000 in
theorem tlv_value.calls (k : Nat) (a0 : Int) (A1 : Option Addr) (c1 : Nat) (l1 : List Int) (r1 : Int) (r2 : Int) (r3 : ByteArray) (r4 : Bool) (w : World) (hr1 : Kd.C (Kd.int .u8) w A1 l1.length l1) (hc1 : l1.length ≤ c1) (h : tlv_value.f k a0 l1 = some (r1, r2, r3, r4)) :
  Calls Try.prog 77 #[.int .i64 a0, .slice A1 l1.length c1] w fun e w' => e = .returned (.tuple #[.agg #[.int .i64 r1, .int .u64 r2, .string r3], .bool r4]) ∧ Below w.heap.size w w' := by
 have hu51 := Try.underlying51
 have HR1 := Aside0.mk hr1
 have HC1 := Aside0.mk hc1
 clear hr1 hc1
 have HB := Aside0.mk (Below.refl w.heap.size w)
 have H : ((kind_Uint.f).bind fun t504 => (if a0 = t504 then (tlv_value.j0 k a0 l1 a0 (a0 == t504) a0 0 (⟨#[]⟩ : ByteArray)) else ((kind_Int.f).bind fun t505 => (tlv_value.j0 k a0 l1 a0 (a0 == t505) a0 0 (⟨#[]⟩ : ByteArray))))) = some (r1, r2, r3, r4) := h
 clear h
 replace H := Option.bind_eq_some_iff.mp H
 obtain ⟨t504, A30, H⟩ := H
 replace H : (if a0 = t504 then (tlv_value.j0 k a0 l1 a0 (a0 == t504) a0 0 (⟨#[]⟩ : ByteArray)) else ((kind_Int.f).bind fun t505 => (tlv_value.j0 k a0 l1 a0 (a0 == t505) a0 0 (⟨#[]⟩ : ByteArray)))) = some (r1, r2, r3, r4) := H
 have A3 := Aside0.mk A30
 clear A30
 have HC4 := Aside0.mk H
 clear H
 go_enter Try.func77, Try.ntmps77
 go_upto_if 16 with (first | ((with_reducible refine gate_dst (N := 4) rfl ?_); (try (refine gate_guard (by rfl) ?_; dsimp only)); refine box_event ?hg (N := 4) ?hd (cs := #[.int .i64 0, .int .u64 0, .string (⟨#[]⟩ : ByteArray)]) (t := 51) ?hr ?_; (case hd => rfl); (case hg => rfl); (case hr => first | (go_simp; done) | (go_simp; rfl)); intro gb502 hg w5 hbox hb; have n0_ := Aside0.mk (below_step (by repeat (first | (with_reducible first | exact HB.out | apply below_alloc | apply pw_below_drewN | apply below_drew1) | exact HB.out)) hb); have n1_ := Aside0.mk (hbox); have n2_ := Aside0.mk ((by rw [hg]; exact (below_size (by repeat (first | (with_reducible first | exact HB.out | apply below_alloc | apply pw_below_drewN | apply below_drew1) | exact HB.out))) : w.heap.size ≤ gb502)); have n3_ := Aside0.mk ((by rw [hg]; exact (below_size (by repeat (first | (with_reducible first | exact HB.out | apply below_alloc | apply pw_below_drewN | apply below_drew1) | exact HB.out))) : w.heap.size ≤ gb502)); clear HB; have HB := n0_; have BK502 := n1_; have GW502 := n2_; have GE502 := n3_; clear n0_ n1_ n2_ n3_; clear hb hbox hg) | ((with_reducible refine gate_dst (N := 6) rfl ?_); (try (refine gate_guard (by rfl) ?_; dsimp only)); refine box_event ?hg (N := 6) ?hd (cs := #[.int .i64 0, .int .u64 0, .string (⟨#[]⟩ : ByteArray)]) (t := 51) ?hr ?_; (case hd => rfl); (case hg => rfl); (case hr => first | (go_simp; done) | (go_simp; rfl)); intro gb503 hg w6 hbox hb; have n0_ := Aside0.mk (blk_below (g := gb502) (o := .cells #[.int .i64 0, .int .u64 0, .string (⟨#[]⟩ : ByteArray)] 51 (0, 0)) (by (with_reducible repeat (first | refine blk_drewN ?_ _ | refine blk_drew ?_ | refine blk_alloc ?_ _)); exact BK502.out) hb); have n1_ := Aside0.mk (below_step (by repeat (first | (with_reducible first | exact HB.out | apply below_alloc | apply pw_below_drewN | apply below_drew1 | refine below_set ?_ GE502.out) | exact HB.out)) hb); have n2_ := Aside0.mk (hbox); have n3_ := Aside0.mk ((by rw [hg]; exact (below_size (by repeat (first | (with_reducible first | exact HB.out | apply below_alloc | apply pw_below_drewN | apply below_drew1 | refine below_set ?_ GE502.out) | exact HB.out))) : w.heap.size ≤ gb503)); have n4_ := Aside0.mk ((by rw [hg]; exact (below_size (by repeat (first | (with_reducible first | exact HB.out | apply below_alloc | apply pw_below_drewN | apply below_drew1 | refine below_set ?_ GE502.out) | exact HB.out))) : w.heap.size ≤ gb503)); have n5_ := Aside0.mk ((by rw [hg]; exact Nat.ne_of_lt (blk_lt (g := gb502) (o := .cells #[.int .i64 0, .int .u64 0, .string (⟨#[]⟩ : ByteArray)] 51 (0, 0)) (by (with_reducible repeat (first | refine blk_drewN ?_ _ | refine blk_drew ?_ | refine blk_alloc ?_ _)); exact BK502.out)) : gb502 ≠ gb503)); have n6_ := Aside0.mk ((by rw [hg]; exact Nat.ne_of_gt (blk_lt (g := gb502) (o := .cells #[.int .i64 0, .int .u64 0, .string (⟨#[]⟩ : ByteArray)] 51 (0, 0)) (by (with_reducible repeat (first | refine blk_drewN ?_ _ | refine blk_drew ?_ | refine blk_alloc ?_ _)); exact BK502.out)) : gb503 ≠ gb502)); clear BK502; clear HB; have BK502 := n0_; have HB := n1_; have BK503 := n2_; have GW503 := n3_; have GE503 := n4_; have NB502_503 := n5_; have NB503_502 := n6_; clear n0_ n1_ n2_ n3_ n4_ n5_ n6_; clear hb hbox hg; have hnb7 := NB503_502.out; have hnc7 := NB502_503.out; have hcz8_0 : w6.cell? ⟨gb503, 0, none⟩ = some (.int .i64 0) := (blk_cell BK503.out 0).trans rfl; have hcz8_1 : w6.cell? ⟨gb503, 1, none⟩ = some (.int .u64 0) := (blk_cell BK503.out 1).trans rfl; have hcz8_2 : w6.cell? ⟨gb503, 2, none⟩ = some (.string (⟨#[]⟩ : ByteArray)) := (blk_cell BK503.out 2).trans rfl; have hfz8_0 := blk_frozen BK503.out 0; have hfz8_1 := blk_frozen BK503.out 1; have hfz8_2 := blk_frozen BK503.out 2) | ((with_reducible refine gate_callee (f := 43) rfl ?_); refine goesL_ (some 17) rfl rfl Try.func43 (by kernel_rfl) rfl #[] rfl (by (try simp only [List.map_toArray, List.map_cons, List.map_nil]); first | done | rfl | (simp only [List.length_drop, List.length_take]; rfl)) ?_; (with_reducible refine (kind_Uint.calls  t504 _ A3.out).mono ?_); rintro e w' ⟨rfl, ⟨nd, rfl⟩⟩; refine ⟨_, rfl, ?_⟩))
 (try simp only [Act.put, List.setIfInBounds_toArray, List.set_cons_zero, List.set_cons_succ])
 go_cut [16] (fun v16 wc => ∃ (kq : Nat) (x16_3 : Bool), v16 = .bool x16_3 ∧ Aside0 (tlv_value.j0 kq a0 l1 a0 x16_3 a0 0 (⟨#[]⟩ : ByteArray) = some (r1, r2, r3, r4)) ∧ Aside0 (kq ≤ k) ∧ Aside0 (wc.heap[gb502]? = some (.cells #[.int .i64 0, .int .u64 0, .string (⟨#[]⟩ : ByteArray)] 51 (0, 0))) ∧ Aside0 (wc.heap[gb503]? = some (.cells #[.int .i64 a0, .int .u64 0, .string (⟨#[]⟩ : ByteArray)] 51 (0, 0))) ∧ Aside0 (Below w.heap.size w wc))
 case first =>
  have H := HC4.out
  clear HC4
  by_cases c9 : a0 = t504
  ·rw [if_pos c9] at H
   have c9b0 : (a0 == t504) = true := beq_iff_eq.mpr c9
   have c9b1 : (a0 != t504) = false := bne_eq_false_iff_eq.mpr c9
   clear c9
   (first | rw [c9b0] | (simp only [i64_w, i32_w]; rw [c9b0]) | skip)
   have H' := Aside0.mk H
   clear H
   go_wp2
   go_meet
   case rel => exact ⟨_, ((a0 == t504)), (by first | rfl | (simp; done) | (simp [*]; done)), H', ⟨by first | omega | exact Nat.le_refl _⟩, ⟨by (with_reducible repeat (first | refine blk_drewN ?_ _ | refine blk_drew ?_ | refine blk_alloc ?_ _)); refine blk_far ?_ NB502_503.out _; (with_reducible repeat (first | refine blk_drewN ?_ _ | refine blk_drew ?_ | refine blk_alloc ?_ _)); refine blk_far ?_ NB502_503.out _; (with_reducible repeat (first | refine blk_drewN ?_ _ | refine blk_drew ?_ | refine blk_alloc ?_ _)); refine blk_far ?_ NB502_503.out _; (with_reducible repeat (first | refine blk_drewN ?_ _ | refine blk_drew ?_ | refine blk_alloc ?_ _)); exact BK502.out⟩, ⟨by (with_reducible repeat (first | refine blk_drewN ?_ _ | refine blk_drew ?_ | refine blk_alloc ?_ _)); refine blk_put (cs := #[.int .i64 a0, .int .u64 0, .string (⟨#[]⟩ : ByteArray)]) ?_ 2 _ rfl; (with_reducible repeat (first | refine blk_drewN ?_ _ | refine blk_drew ?_ | refine blk_alloc ?_ _)); refine blk_put (cs := #[.int .i64 a0, .int .u64 0, .string (⟨#[]⟩ : ByteArray)]) ?_ 1 _ rfl; (with_reducible repeat (first | refine blk_drewN ?_ _ | refine blk_drew ?_ | refine blk_alloc ?_ _)); refine blk_put (cs := #[.int .i64 0, .int .u64 0, .string (⟨#[]⟩ : ByteArray)]) ?_ 0 _ rfl; (with_reducible repeat (first | refine blk_drewN ?_ _ | refine blk_drew ?_ | refine blk_alloc ?_ _)); exact BK503.out⟩, ⟨by repeat (first | (with_reducible first | exact HB.out | apply below_alloc | apply pw_below_drewN | apply below_drew1 | refine below_set ?_ GE502.out | refine below_set ?_ GE503.out) | exact HB.out)⟩⟩
  ·rw [if_neg c9] at H
   have c9b0 : (a0 == t504) = false := beq_eq_false_iff_ne.mpr c9
   have c9b1 : (a0 != t504) = true := bne_iff_ne.mpr c9
   (first | rw [c9b0] | (simp only [i64_w, i32_w]; rw [c9b0]) | skip)
   replace H := Option.bind_eq_some_iff.mp H
   obtain ⟨t505, A100, H⟩ := H
   replace H : (tlv_value.j0 k a0 l1 a0 (a0 == t505) a0 0 (⟨#[]⟩ : ByteArray)) = some (r1, r2, r3, r4) := H
   have A10 := Aside0.mk A100
   clear A100
   have H' := Aside0.mk H
   clear H
   go_wp2_with (first | ((with_reducible refine gate_callee (f := 45) rfl ?_); refine goesL_ (some 19) rfl rfl Try.func45 (by kernel_rfl) rfl #[] rfl (by (try simp only [List.map_toArray, List.map_cons, List.map_nil]); first | done | rfl | (simp only [List.length_drop, List.length_take]; rfl)) ?_; (with_reducible refine (kind_Int.calls  t505 _ A10.out).mono ?_); rintro e w' ⟨rfl, ⟨nd, rfl⟩⟩; refine ⟨_, rfl, ?_⟩))
   go_meet
   case rel => exact ⟨_, ((a0 == t505)), (by first | rfl | (simp; done) | (simp [*]; done)), H', ⟨by first | omega | exact Nat.le_refl _⟩, ⟨by (with_reducible repeat (first | refine blk_drewN ?_ _ | refine blk_drew ?_ | refine blk_alloc ?_ _)); refine blk_far ?_ NB502_503.out _; (with_reducible repeat (first | refine blk_drewN ?_ _ | refine blk_drew ?_ | refine blk_alloc ?_ _)); refine blk_far ?_ NB502_503.out _; (with_reducible repeat (first | refine blk_drewN ?_ _ | refine blk_drew ?_ | refine blk_alloc ?_ _)); refine blk_far ?_ NB502_503.out _; (with_reducible repeat (first | refine blk_drewN ?_ _ | refine blk_drew ?_ | refine blk_alloc ?_ _)); exact BK502.out⟩, ⟨by (with_reducible repeat (first | refine blk_drewN ?_ _ | refine blk_drew ?_ | refine blk_alloc ?_ _)); refine blk_put (cs := #[.int .i64 a0, .int .u64 0, .string (⟨#[]⟩ : ByteArray)]) ?_ 2 _ rfl; (with_reducible repeat (first | refine blk_drewN ?_ _ | refine blk_drew ?_ | refine blk_alloc ?_ _)); refine blk_put (cs := #[.int .i64 a0, .int .u64 0, .string (⟨#[]⟩ : ByteArray)]) ?_ 1 _ rfl; (with_reducible repeat (first | refine blk_drewN ?_ _ | refine blk_drew ?_ | refine blk_alloc ?_ _)); refine blk_put (cs := #[.int .i64 0, .int .u64 0, .string (⟨#[]⟩ : ByteArray)]) ?_ 0 _ rfl; (with_reducible repeat (first | refine blk_drewN ?_ _ | refine blk_drew ?_ | refine blk_alloc ?_ _)); exact BK503.out⟩, ⟨by repeat (first | (with_reducible first | exact HB.out | apply below_alloc | apply pw_below_drewN | apply below_drew1 | refine below_set ?_ GE502.out | refine below_set ?_ GE503.out) | exact HB.out)⟩⟩
 case rest =>
  clear HC4
  try clear c1
  try clear p2
  try clear c4
  try clear c7
  try clear c9
  try clear c9b0
  try clear c9b1
  try clear hcz8_0
  try clear hcz8_1
  try clear hcz8_2
  try clear hfz8_0
  try clear hfz8_1
  try clear hfz8_2
  obtain ⟨kq, x16_3, rfl, HA, HJ3, BK502, BK503, HB⟩ := hcut
  cases kq with
  | zero => exact absurd HA.out (by simp [tlv_value.j0])
  | succ kj3 =>
   have H := HA.out
   clear HA
   simp only [tlv_value.j0] at H
   by_cases c11 : x16_3 = true
   ·subst c11
    have H1 : ((varint_Take.f kj3 l1).bind fun bt506 => (if bt506.2.2 = 0 then (tlv_value.j1 kj3 a0 bt506.1 (bt506.2.1 != (l1.length : Int)) a0 0 (⟨#[]⟩ : ByteArray)) else (tlv_value.j1 kj3 a0 bt506.1 true a0 0 (⟨#[]⟩ : ByteArray)))) = some (r1, r2, r3, r4) := by rw [if_pos rfl] at H; exact H
    clear H
    have H := H1
    clear H1
    replace H := Option.bind_eq_some_iff.mp H
    obtain ⟨⟨t506, t507, t508⟩, A120, H⟩ := H
    replace H : (if t508 = 0 then (tlv_value.j1 kj3 a0 t506 (t507 != (l1.length : Int)) a0 0 (⟨#[]⟩ : ByteArray)) else (tlv_value.j1 kj3 a0 t506 true a0 0 (⟨#[]⟩ : ByteArray))) = some (r1, r2, r3, r4) := H
    have A12 := Aside0.mk A120
    clear A120
    have HC13 := Aside0.mk H
    clear H
    go_upto_region 7 with (first | ((with_reducible refine gate_callee (f := 76) rfl ?_); refine goesL_ (some 23) rfl rfl Try.func76 (by kernel_rfl) rfl #[.slice A1 l1.length c1] rfl (by (try simp only [List.map_toArray, List.map_cons, List.map_nil]); first | done | rfl | (simp only [List.length_drop, List.length_take]; rfl)) ?_; (with_reducible refine (varint_Take.calls kj3 _ _ l1 t506 t507 t508 _ ?side1 ?side2 A12.out).mono ?_); (case side1 => repeat (first | exact (Kd.C_below HR1.out HB.out) | (with_reducible refine Kd.C_alloc ?_ _) | (with_reducible refine Kd.C_drewN ?_ _) | (with_reducible refine Kd.C_drew ?_))); (case side2 => exact HC1.out); rintro e w' ⟨rfl, ⟨nd, rfl⟩⟩; refine ⟨_, rfl, ?_⟩))
    (try simp only [Act.put, List.setIfInBounds_toArray, List.set_cons_zero, List.set_cons_succ])
    go_cut [34] (fun v34 wc => ∃ (kq : Nat) (x34_12 : Bool), v34 = .bool x34_12 ∧ Aside0 (tlv_value.j1 kq a0 t506 x34_12 a0 0 (⟨#[]⟩ : ByteArray) = some (r1, r2, r3, r4)) ∧ Aside0 (kq ≤ kj3) ∧ Aside0 (wc.heap[gb502]? = some (.cells #[.int .i64 0, .int .u64 0, .string (⟨#[]⟩ : ByteArray)] 51 (0, 0))) ∧ Aside0 (wc.heap[gb503]? = some (.cells #[.int .i64 a0, .int .u64 0, .string (⟨#[]⟩ : ByteArray)] 51 (0, 0))) ∧ Aside0 (Below w.heap.size w wc))
    case first =>
     have H := HC13.out
     clear HC13
     by_cases c14 : t508 = 0
     ·rw [if_pos c14] at H
      have c14b0 : (t508 == 0) = true := beq_iff_eq.mpr c14
      have c14b1 : (t508 != 0) = false := bne_eq_false_iff_eq.mpr c14
      clear c14
      (first | rw [c14b0] | (simp only [i64_w, i32_w]; rw [c14b0]) | skip)
      have H' := Aside0.mk H
      clear H
      go_wp2
      go_meet
      case rel => exact ⟨_, ((t507 != (l1.length : Int))), (by first | rfl | (simp; done) | (simp [*]; done)), H', ⟨by have := HJ3.out; first | omega | exact Nat.le_refl _⟩, ⟨by (with_reducible repeat (first | refine blk_drewN ?_ _ | refine blk_drew ?_ | refine blk_alloc ?_ _)); exact BK502.out⟩, ⟨by (with_reducible repeat (first | refine blk_drewN ?_ _ | refine blk_drew ?_ | refine blk_alloc ?_ _)); exact BK503.out⟩, ⟨by repeat (first | (with_reducible first | exact HB.out | apply below_alloc | apply pw_below_drewN | apply below_drew1 | refine below_set ?_ GE502.out | refine below_set ?_ GE503.out) | exact HB.out)⟩⟩
     ·rw [if_neg c14] at H
      have c14b0 : (t508 == 0) = false := beq_eq_false_iff_ne.mpr c14
      have c14b1 : (t508 != 0) = true := bne_iff_ne.mpr c14
      (first | rw [c14b0] | (simp only [i64_w, i32_w]; rw [c14b0]) | skip)
      have H' := Aside0.mk H
      clear H
      go_wp2
      go_meet
      case rel => exact ⟨_, (true), (by first | rfl | (simp; done) | (simp [*]; done)), H', ⟨by have := HJ3.out; first | omega | exact Nat.le_refl _⟩, ⟨by (with_reducible repeat (first | refine blk_drewN ?_ _ | refine blk_drew ?_ | refine blk_alloc ?_ _)); exact BK502.out⟩, ⟨by (with_reducible repeat (first | refine blk_drewN ?_ _ | refine blk_drew ?_ | refine blk_alloc ?_ _)); exact BK503.out⟩, ⟨by repeat (first | (with_reducible first | exact HB.out | apply below_alloc | apply pw_below_drewN | apply below_drew1 | refine below_set ?_ GE502.out | refine below_set ?_ GE503.out) | exact HB.out)⟩⟩
    case rest =>
     clear HC13
     try clear c1
     try clear p2
     try clear c4
     try clear c7
     try clear c9
     try clear c9b0
     try clear c9b1
     try clear c11
     try clear c14
     try clear c14b0
     try clear c14b1
     try clear hcz8_0
     try clear hcz8_1
     try clear hcz8_2
     try clear hfz8_0
     try clear hfz8_1
     try clear hfz8_2
     try clear p2
     obtain ⟨kq, x34_12, rfl, HA, HJ12, BK502, BK503, HB⟩ := hcut
     cases kq with
     | zero => exact absurd HA.out (by simp [tlv_value.j1])
     | succ kj12 =>
      have H := HA.out
      clear HA
      simp only [tlv_value.j1] at H
      by_cases c15 : x34_12 = true
      ·subst c15
       have H1 : (some (a0, 0, (⟨#[]⟩ : ByteArray), false)) = some (r1, r2, r3, r4) := by rw [if_pos rfl] at H; exact H
       clear H
       have H := H1
       clear H1
       simp only [Option.some.injEq, Prod.mk.injEq] at H
       obtain ⟨rfl, rfl, rfl, rfl⟩ := H
       have hnb16 := NB503_502.out
       have hnc16 := NB502_503.out
       have hcz17_0 : wc.cell? ⟨gb503, 0, none⟩ = some (.int .i64 a0) := (blk_cell BK503.out 0).trans rfl
       have hcz17_1 : wc.cell? ⟨gb503, 1, none⟩ = some (.int .u64 0) := (blk_cell BK503.out 1).trans rfl
       have hcz17_2 : wc.cell? ⟨gb503, 2, none⟩ = some (.string (⟨#[]⟩ : ByteArray)) := (blk_cell BK503.out 2).trans rfl
       have hfz17_0 := blk_frozen BK503.out 0
       have hfz17_1 := blk_frozen BK503.out 1
       have hfz17_2 := blk_frozen BK503.out 2
       have hcz18_0 : wc.cell? ⟨gb502, 0, none⟩ = some (.int .i64 0) := (blk_cell BK502.out 0).trans rfl
       have hcz18_1 : wc.cell? ⟨gb502, 1, none⟩ = some (.int .u64 0) := (blk_cell BK502.out 1).trans rfl
       have hcz18_2 : wc.cell? ⟨gb502, 2, none⟩ = some (.string (⟨#[]⟩ : ByteArray)) := (blk_cell BK502.out 2).trans rfl
       have hfz18_0 := blk_frozen BK502.out 0
       have hfz18_1 := blk_frozen BK502.out 1
       have hfz18_2 := blk_frozen BK502.out 2
       go_wp2
       refine bodyPost_ret (results_ct rfl _ _ gb502 51 #[.int .i64 a0, .int .u64 0, .string (⟨#[]⟩ : ByteArray)] (0, 0) _ rfl (by (with_reducible repeat (first | refine blk_drewN ?_ _ | refine blk_drew ?_ | refine blk_alloc ?_ _)); refine blk_put (cs := #[.int .i64 a0, .int .u64 0, .string (⟨#[]⟩ : ByteArray)]) ?_ 2 _ rfl; (with_reducible repeat (first | refine blk_drewN ?_ _ | refine blk_drew ?_ | refine blk_alloc ?_ _)); refine blk_put (cs := #[.int .i64 a0, .int .u64 0, .string (⟨#[]⟩ : ByteArray)]) ?_ 1 _ rfl; (with_reducible repeat (first | refine blk_drewN ?_ _ | refine blk_drew ?_ | refine blk_alloc ?_ _)); refine blk_put (cs := #[.int .i64 0, .int .u64 0, .string (⟨#[]⟩ : ByteArray)]) ?_ 0 _ rfl; (with_reducible repeat (first | refine blk_drewN ?_ _ | refine blk_drew ?_ | refine blk_alloc ?_ _)); exact BK502.out) Try.underlying51 rfl (by kernel_rfl)) rfl ?_
       exact ⟨by first | rfl | (simp [errW_none, errW_some] <;> rfl) | (simp [*, errW_none, errW_some] <;> rfl), by repeat (first | (with_reducible first | exact HB.out | apply below_alloc | apply pw_below_drewN | apply below_drew1 | refine below_set ?_ GE502.out | refine below_set ?_ GE503.out) | exact HB.out)⟩
      ·replace c15 := Bool.eq_false_iff.mpr c15
       subst c15
       have H1 : ((kind_Int.f).bind fun t509 => (if a0 = t509 then ((varint_Zag.f t506).bind fun t510 => ((kind_Valid.f kj12 a0 (IntKind.u64.wrap (t510)) (⟨#[]⟩ : ByteArray)).bind fun t511 => (some (a0, IntKind.u64.wrap (t510), (⟨#[]⟩ : ByteArray), t511)))) else ((kind_Valid.f kj12 a0 t506 (⟨#[]⟩ : ByteArray)).bind fun t512 => (some (a0, t506, (⟨#[]⟩ : ByteArray), t512))))) = some (r1, r2, r3, r4) := by rw [if_neg (show ¬ (false = true) by decide)] at H; exact H
       clear H
       have H := H1
       clear H1
       replace H := Option.bind_eq_some_iff.mp H
       obtain ⟨t509, A190, H⟩ := H
       replace H : (if a0 = t509 then ((varint_Zag.f t506).bind fun t510 => ((kind_Valid.f kj12 a0 (IntKind.u64.wrap (t510)) (⟨#[]⟩ : ByteArray)).bind fun t511 => (some (a0, IntKind.u64.wrap (t510), (⟨#[]⟩ : ByteArray), t511)))) else ((kind_Valid.f kj12 a0 t506 (⟨#[]⟩ : ByteArray)).bind fun t512 => (some (a0, t506, (⟨#[]⟩ : ByteArray), t512)))) = some (r1, r2, r3, r4) := H
       have A19 := Aside0.mk A190
       clear A190
       by_cases c20 : a0 = t509
       ·rw [if_pos c20] at H
        have c20b0 : (a0 == t509) = true := beq_iff_eq.mpr c20
        have c20b1 : (a0 != t509) = false := bne_eq_false_iff_eq.mpr c20
        clear c20
        replace H := Option.bind_eq_some_iff.mp H
        obtain ⟨t510, A210, H⟩ := H
        replace H : ((kind_Valid.f kj12 a0 (IntKind.u64.wrap (t510)) (⟨#[]⟩ : ByteArray)).bind fun t511 => (some (a0, IntKind.u64.wrap (t510), (⟨#[]⟩ : ByteArray), t511))) = some (r1, r2, r3, r4) := H
        have A21 := Aside0.mk A210
        clear A210
        replace H := Option.bind_eq_some_iff.mp H
        obtain ⟨t511, A220, H⟩ := H
        replace H : (some (a0, IntKind.u64.wrap (t510), (⟨#[]⟩ : ByteArray), t511)) = some (r1, r2, r3, r4) := H
        have A22 := Aside0.mk A220
        clear A220
        simp only [Option.some.injEq, Prod.mk.injEq] at H
        obtain ⟨rfl, rfl, rfl, rfl⟩ := H
        have hnb23 := NB503_502.out
        have hnc23 := NB502_503.out
        have hcz24_0 : wc.cell? ⟨gb503, 0, none⟩ = some (.int .i64 a0) := (blk_cell BK503.out 0).trans rfl
        have hcz24_1 : wc.cell? ⟨gb503, 1, none⟩ = some (.int .u64 0) := (blk_cell BK503.out 1).trans rfl
        have hcz24_2 : wc.cell? ⟨gb503, 2, none⟩ = some (.string (⟨#[]⟩ : ByteArray)) := (blk_cell BK503.out 2).trans rfl
        have hfz24_0 := blk_frozen BK503.out 0
        have hfz24_1 := blk_frozen BK503.out 1
        have hfz24_2 := blk_frozen BK503.out 2
        try go_wp2_with (first | ((with_reducible refine gate_callee (f := 45) rfl ?_); refine goesL_ (some 39) rfl rfl Try.func45 (by kernel_rfl) rfl #[] rfl (by (try simp only [List.map_toArray, List.map_cons, List.map_nil]); first | done | rfl | (simp only [List.length_drop, List.length_take]; rfl)) ?_; (with_reducible refine (kind_Int.calls  t509 _ A19.out).mono ?_); rintro e w' ⟨rfl, ⟨nd, rfl⟩⟩; refine ⟨_, rfl, ?_⟩) | ((with_reducible refine gate_callee (f := 80) rfl ?_); refine goesL_ (some 42) rfl rfl Try.func80 (by kernel_rfl) rfl #[.int .u64 t506] rfl (by (try simp only [List.map_toArray, List.map_cons, List.map_nil]); first | done | rfl | (simp only [List.length_drop, List.length_take]; rfl)) ?_; (with_reducible refine (varint_Zag.calls t506 t510 _ A21.out).mono ?_); rintro e w' ⟨rfl, ⟨nd, rfl⟩⟩; refine ⟨_, rfl, ?_⟩))
        have n0_ : Aside0 (((wc.setCell ⟨gb503, 1, none⟩ (.int .u64 t506)).setCell ⟨gb503, 1, none⟩ (.int .u64 (IntKind.u64.wrap (t510)))).heap[gb502]? = some (.cells #[.int .i64 0, .int .u64 0, .string (⟨#[]⟩ : ByteArray)] 51 (0, 0))) := ⟨by (with_reducible repeat (first | refine blk_drewN ?_ _ | refine blk_drew ?_ | refine blk_alloc ?_ _)); refine blk_far ?_ NB502_503.out _; (with_reducible repeat (first | refine blk_drewN ?_ _ | refine blk_drew ?_ | refine blk_alloc ?_ _)); refine blk_far ?_ NB502_503.out _; (with_reducible repeat (first | refine blk_drewN ?_ _ | refine blk_drew ?_ | refine blk_alloc ?_ _)); exact BK502.out⟩
        have n1_ : Aside0 (((wc.setCell ⟨gb503, 1, none⟩ (.int .u64 t506)).setCell ⟨gb503, 1, none⟩ (.int .u64 (IntKind.u64.wrap (t510)))).heap[gb503]? = some (.cells #[.int .i64 a0, .int .u64 (IntKind.u64.wrap (t510)), .string (⟨#[]⟩ : ByteArray)] 51 (0, 0))) := ⟨by (with_reducible repeat (first | refine blk_drewN ?_ _ | refine blk_drew ?_ | refine blk_alloc ?_ _)); refine blk_put (cs := #[.int .i64 a0, .int .u64 t506, .string (⟨#[]⟩ : ByteArray)]) ?_ 1 _ rfl; (with_reducible repeat (first | refine blk_drewN ?_ _ | refine blk_drew ?_ | refine blk_alloc ?_ _)); refine blk_put (cs := #[.int .i64 a0, .int .u64 0, .string (⟨#[]⟩ : ByteArray)]) ?_ 1 _ rfl; (with_reducible repeat (first | refine blk_drewN ?_ _ | refine blk_drew ?_ | refine blk_alloc ?_ _)); exact BK503.out⟩
        have n2_ : Aside0 (Below w.heap.size w ((wc.setCell ⟨gb503, 1, none⟩ (.int .u64 t506)).setCell ⟨gb503, 1, none⟩ (.int .u64 (IntKind.u64.wrap (t510))))) := ⟨by repeat (first | (with_reducible first | exact HB.out | apply below_alloc | apply pw_below_drewN | apply below_drew1 | refine below_set ?_ GE502.out | refine below_set ?_ GE503.out) | exact HB.out)⟩
        (try clear BK502)
        (try clear BK503)
        (try clear HB)
        (try simp only [show ∀ (w_ : World) (n_ : Nat) (p_ : Addr) (u_ : Value), (w_.drewN n_).setCell p_ u_ = (w_.setCell p_ u_).drewN n_ from fun _ _ _ _ => rfl])
        generalize ((wc.setCell ⟨gb503, 1, none⟩ (.int .u64 t506)).setCell ⟨gb503, 1, none⟩ (.int .u64 (IntKind.u64.wrap (t510)))) = w25 at n0_ n1_ n2_ ⊢
        have BK502 := n0_
        have BK503 := n1_
        have HB := n2_
        clear n0_ n1_ n2_
        (try (rw [drewN_self w25]; generalize hq_ : World.drewN w25 _ = w25; have n0_ : Aside0 (w25.heap[gb502]? = some (.cells #[.int .i64 0, .int .u64 0, .string (⟨#[]⟩ : ByteArray)] 51 (0, 0))) := ⟨by rw [← hq_]; exact (by (with_reducible repeat (first | refine blk_drewN ?_ _ | refine blk_drew ?_ | refine blk_alloc ?_ _)); exact BK502.out)⟩; have n1_ : Aside0 (w25.heap[gb503]? = some (.cells #[.int .i64 a0, .int .u64 (IntKind.u64.wrap (t510)), .string (⟨#[]⟩ : ByteArray)] 51 (0, 0))) := ⟨by rw [← hq_]; exact (by (with_reducible repeat (first | refine blk_drewN ?_ _ | refine blk_drew ?_ | refine blk_alloc ?_ _)); exact BK503.out)⟩; have n2_ : Aside0 (Below w.heap.size w w25) := ⟨by rw [← hq_]; exact (by repeat (first | (with_reducible first | exact HB.out | apply below_alloc | apply pw_below_drewN | apply below_drew1 | refine below_set ?_ GE502.out | refine below_set ?_ GE503.out) | exact HB.out))⟩; clear BK502 BK503 HB hq_; have BK502 := n0_; have BK503 := n1_; have HB := n2_; clear n0_ n1_ n2_))
        have n0_ := Aside0.mk (blk_drew BK502.out)
        have n1_ := Aside0.mk (blk_drew BK503.out)
        have n2_ := Aside0.mk (below_drew1 HB.out)
        clear BK502
        clear BK503
        clear HB
        have BK502 := n0_
        have BK503 := n1_
        have HB := n2_
        clear n0_ n1_ n2_
        refine start_ (n := 5) (S := fun w' => w'.cell? ⟨gb503, 0, none⟩ = some (.int .i64 a0) ∧ w'.cell? ⟨gb503, 1, none⟩ = some (.int .u64 (IntKind.u64.wrap (t510))) ∧ w'.cell? ⟨gb503, 2, none⟩ = some (.string (⟨#[]⟩ : ByteArray))) (ds := []) #[false, false, false, false, false] (by kernel_rfl) rfl rfl ⟨(blk_cell BK503.out 0).trans rfl, (blk_cell BK503.out 1).trans rfl, (blk_cell BK503.out 2).trans rfl⟩ (fun hHeld => ?_)
        generalize w25.drew = w26 at BK502 BK503 HB hHeld ⊢
        refine take_ (i := 0) (N := some 57) (v := ?_) (a' := ?_) #[true, false, false, false, false] rfl rfl (by kernel_rfl) (fun _ _ _ h => h) (Or.inl ⟨by rfl, ?_⟩) hHeld ?_ ?_
        rotate_left
        ·rintro w' ⟨s0, s1, s2⟩
         go_simp
         with_reducible rfl
        rotate_left
        ·simp only [Act.put, List.setIfInBounds_toArray, List.set_cons_zero, List.set_cons_succ, i64_w, i32_w]
         rfl
        refine take_ (i := 1) (N := some 58) (v := ?_) (a' := ?_) #[true, true, false, false, false] rfl rfl (by kernel_rfl) (fun _ _ _ h => h) (Or.inl ⟨by rfl, ?_⟩) hHeld ?_ ?_
        rotate_left
        ·rintro w' ⟨s0, s1, s2⟩
         go_simp
         with_reducible rfl
        rotate_left
        ·simp only [Act.put, List.setIfInBounds_toArray, List.set_cons_zero, List.set_cons_succ, i64_w, i32_w]
         rfl
        refine one_ (i := 2) (N := some 59) #[true, true, true, false, false] rfl rfl (by kernel_rfl) (by decide) (fun K hK => ?_)
        refine goes_ Try.func42 (by kernel_rfl) rfl #[.agg #[.int .i64 a0, .int .u64 (IntKind.u64.wrap (t510)), .string (⟨#[]⟩ : ByteArray)]] (by rfl) rfl rfl (by (try simp only [List.map_toArray, List.map_cons, List.map_nil]); first | done | rfl | (simp only [List.length_drop, List.length_take]; rfl)) ?_
        with_reducible refine (kind_Valid.calls kj12 a0 (IntKind.u64.wrap (t510)) (⟨#[]⟩ : ByteArray) t511 _ A22.out).mono ?_
        rintro e w27 ⟨rfl, hb⟩
        refine ⟨_, rfl, ?_⟩
        have n0_ := Aside0.mk (blk_below (g := gb502) (o := .cells #[.int .i64 0, .int .u64 0, .string (⟨#[]⟩ : ByteArray)] 51 (0, 0)) (by (with_reducible repeat (first | refine blk_drewN ?_ _ | refine blk_drew ?_ | refine blk_alloc ?_ _)); exact BK502.out) hb)
        have n1_ := Aside0.mk (blk_below (g := gb503) (o := .cells #[.int .i64 a0, .int .u64 (IntKind.u64.wrap (t510)), .string (⟨#[]⟩ : ByteArray)] 51 (0, 0)) (by (with_reducible repeat (first | refine blk_drewN ?_ _ | refine blk_drew ?_ | refine blk_alloc ?_ _)); exact BK503.out) hb)
        have n2_ := Aside0.mk (below_step (by repeat (first | (with_reducible first | exact HB.out | apply below_alloc | apply pw_below_drewN | apply below_drew1 | refine below_set ?_ GE502.out | refine below_set ?_ GE503.out) | exact HB.out)) hb)
        clear BK502
        clear BK503
        clear HB
        have BK502 := n0_
        have BK503 := n1_
        have HB := n2_
        clear n0_ n1_ n2_
        (try clear hb)
        (try clear hb2)
        (try clear hk)
        (try clear hi)
        refine hK.out _ _ ⟨(blk_cell BK503.out 0).trans rfl, (blk_cell BK503.out 1).trans rfl, (blk_cell BK503.out 2).trans rfl⟩ (fun hHeld => ?_)
        clear hK K
        refine norm_ (a' := ?_) ?_ ?_
        rotate_left
        ·show Act.put _ (some 59) _ = _
         simp only [Act.put, List.setIfInBounds_toArray, List.set_cons_zero, List.set_cons_succ, i64_w, i32_w]
         rfl
        refine one_ (i := 3) (N := none) #[true, true, true, true, false] rfl rfl (by kernel_rfl) (by decide) (fun K hK => ?_)
        have hs28 : w27.cell? ⟨gb502, 0, none⟩ = some (.int .i64 0) := (blk_cell BK502.out 0).trans rfl
        have hfs28 := blk_frozen BK502.out 0
        have hns28_1 := NB503_502.out
        have hms28_1 := NB502_503.out
        have hs29 : w27.cell? ⟨gb502, 1, none⟩ = some (.int .u64 0) := (blk_cell BK502.out 1).trans rfl
        have hfs29 := blk_frozen BK502.out 1
        have hns29_1 := NB503_502.out
        have hms29_1 := NB502_503.out
        have hs30 : w27.cell? ⟨gb502, 2, none⟩ = some (.string (⟨#[]⟩ : ByteArray)) := (blk_cell BK502.out 2).trans rfl
        have hfs30 := blk_frozen BK502.out 2
        have hns30_1 := NB503_502.out
        have hms30_1 := NB502_503.out
        refine skip_ (w1 := ?_) (by rfl) rfl ?_ ?_
        rotate_left
        ·go_simp
         rfl
        refine hK.out _ _ ⟨((cell_far (p := ⟨gb502, _, none⟩) NB503_502.out _).trans (((cell_far (p := ⟨gb502, _, none⟩) NB503_502.out _).trans (((cell_far (p := ⟨gb502, _, none⟩) NB503_502.out _).trans (hHeld.1)))))), ((cell_far (p := ⟨gb502, _, none⟩) NB503_502.out _).trans (((cell_far (p := ⟨gb502, _, none⟩) NB503_502.out _).trans (((cell_far (p := ⟨gb502, _, none⟩) NB503_502.out _).trans (hHeld.2.1)))))), ((cell_far (p := ⟨gb502, _, none⟩) NB503_502.out _).trans (((cell_far (p := ⟨gb502, _, none⟩) NB503_502.out _).trans (((cell_far (p := ⟨gb502, _, none⟩) NB503_502.out _).trans (hHeld.2.2))))))⟩ (fun hHeld => ?_)
        clear hK K
        refine pure_ (i := 4) (N := some 5) (v := ?_) (a' := ?_) #[true, true, true, true, true] rfl rfl (by kernel_rfl) (fun _ _ _ h => h) (Or.inl ⟨by rfl, ?_⟩) ?_ ?_
        rotate_left
        ·intro w'
         go_simp
         with_reducible rfl
        rotate_left
        ·simp only [Act.put, List.setIfInBounds_toArray, List.set_cons_zero, List.set_cons_succ, i64_w, i32_w]
         rfl
        refine done_ (by kernel_rfl) ?_
        try go_wp2
        refine bodyPost_ret (results_ct rfl _ _ gb502 51 #[.int .i64 a0, .int .u64 (IntKind.u64.wrap (t510)), .string (⟨#[]⟩ : ByteArray)] (0, 0) _ rfl (by (with_reducible repeat (first | refine blk_drewN ?_ _ | refine blk_drew ?_ | refine blk_alloc ?_ _)); refine blk_put (cs := #[.int .i64 a0, .int .u64 (IntKind.u64.wrap (t510)), .string (⟨#[]⟩ : ByteArray)]) ?_ 2 _ rfl; (with_reducible repeat (first | refine blk_drewN ?_ _ | refine blk_drew ?_ | refine blk_alloc ?_ _)); refine blk_put (cs := #[.int .i64 a0, .int .u64 0, .string (⟨#[]⟩ : ByteArray)]) ?_ 1 _ rfl; (with_reducible repeat (first | refine blk_drewN ?_ _ | refine blk_drew ?_ | refine blk_alloc ?_ _)); refine blk_put (cs := #[.int .i64 0, .int .u64 0, .string (⟨#[]⟩ : ByteArray)]) ?_ 0 _ rfl; (with_reducible repeat (first | refine blk_drewN ?_ _ | refine blk_drew ?_ | refine blk_alloc ?_ _)); exact BK502.out) Try.underlying51 rfl (by kernel_rfl)) rfl ?_
        exact ⟨by first | rfl | (simp [errW_none, errW_some] <;> rfl) | (simp [*, errW_none, errW_some] <;> rfl), by repeat (first | (with_reducible first | exact HB.out | apply below_alloc | apply pw_below_drewN | apply below_drew1 | refine below_set ?_ GE502.out | refine below_set ?_ GE503.out) | exact HB.out)⟩
       ·rw [if_neg c20] at H
        have c20b0 : (a0 == t509) = false := beq_eq_false_iff_ne.mpr c20
        have c20b1 : (a0 != t509) = true := bne_iff_ne.mpr c20
        replace H := Option.bind_eq_some_iff.mp H
        obtain ⟨t512, A310, H⟩ := H
        replace H : (some (a0, t506, (⟨#[]⟩ : ByteArray), t512)) = some (r1, r2, r3, r4) := H
        have A31 := Aside0.mk A310
        clear A310
        simp only [Option.some.injEq, Prod.mk.injEq] at H
        obtain ⟨rfl, rfl, rfl, rfl⟩ := H
        have hnb32 := NB503_502.out
        have hnc32 := NB502_503.out
        have hcz33_0 : wc.cell? ⟨gb503, 0, none⟩ = some (.int .i64 a0) := (blk_cell BK503.out 0).trans rfl
        have hcz33_1 : wc.cell? ⟨gb503, 1, none⟩ = some (.int .u64 0) := (blk_cell BK503.out 1).trans rfl
        have hcz33_2 : wc.cell? ⟨gb503, 2, none⟩ = some (.string (⟨#[]⟩ : ByteArray)) := (blk_cell BK503.out 2).trans rfl
        have hfz33_0 := blk_frozen BK503.out 0
        have hfz33_1 := blk_frozen BK503.out 1
        have hfz33_2 := blk_frozen BK503.out 2
        try go_wp2_with (first | ((with_reducible refine gate_callee (f := 45) rfl ?_); refine goesL_ (some 39) rfl rfl Try.func45 (by kernel_rfl) rfl #[] rfl (by (try simp only [List.map_toArray, List.map_cons, List.map_nil]); first | done | rfl | (simp only [List.length_drop, List.length_take]; rfl)) ?_; (with_reducible refine (kind_Int.calls  t509 _ A19.out).mono ?_); rintro e w' ⟨rfl, ⟨nd, rfl⟩⟩; refine ⟨_, rfl, ?_⟩))
        have n0_ : Aside0 ((wc.setCell ⟨gb503, 1, none⟩ (.int .u64 t506)).heap[gb502]? = some (.cells #[.int .i64 0, .int .u64 0, .string (⟨#[]⟩ : ByteArray)] 51 (0, 0))) := ⟨by (with_reducible repeat (first | refine blk_drewN ?_ _ | refine blk_drew ?_ | refine blk_alloc ?_ _)); refine blk_far ?_ NB502_503.out _; (with_reducible repeat (first | refine blk_drewN ?_ _ | refine blk_drew ?_ | refine blk_alloc ?_ _)); exact BK502.out⟩
        have n1_ : Aside0 ((wc.setCell ⟨gb503, 1, none⟩ (.int .u64 t506)).heap[gb503]? = some (.cells #[.int .i64 a0, .int .u64 t506, .string (⟨#[]⟩ : ByteArray)] 51 (0, 0))) := ⟨by (with_reducible repeat (first | refine blk_drewN ?_ _ | refine blk_drew ?_ | refine blk_alloc ?_ _)); refine blk_put (cs := #[.int .i64 a0, .int .u64 0, .string (⟨#[]⟩ : ByteArray)]) ?_ 1 _ rfl; (with_reducible repeat (first | refine blk_drewN ?_ _ | refine blk_drew ?_ | refine blk_alloc ?_ _)); exact BK503.out⟩
        have n2_ : Aside0 (Below w.heap.size w (wc.setCell ⟨gb503, 1, none⟩ (.int .u64 t506))) := ⟨by repeat (first | (with_reducible first | exact HB.out | apply below_alloc | apply pw_below_drewN | apply below_drew1 | refine below_set ?_ GE502.out | refine below_set ?_ GE503.out) | exact HB.out)⟩
        (try clear BK502)
        (try clear BK503)
        (try clear HB)
        (try simp only [show ∀ (w_ : World) (n_ : Nat) (p_ : Addr) (u_ : Value), (w_.drewN n_).setCell p_ u_ = (w_.setCell p_ u_).drewN n_ from fun _ _ _ _ => rfl])
        generalize (wc.setCell ⟨gb503, 1, none⟩ (.int .u64 t506)) = w34 at n0_ n1_ n2_ ⊢
        have BK502 := n0_
        have BK503 := n1_
        have HB := n2_
        clear n0_ n1_ n2_
        (try (rw [drewN_self w34]; generalize hq_ : World.drewN w34 _ = w34; have n0_ : Aside0 (w34.heap[gb502]? = some (.cells #[.int .i64 0, .int .u64 0, .string (⟨#[]⟩ : ByteArray)] 51 (0, 0))) := ⟨by rw [← hq_]; exact (by (with_reducible repeat (first | refine blk_drewN ?_ _ | refine blk_drew ?_ | refine blk_alloc ?_ _)); exact BK502.out)⟩; have n1_ : Aside0 (w34.heap[gb503]? = some (.cells #[.int .i64 a0, .int .u64 t506, .string (⟨#[]⟩ : ByteArray)] 51 (0, 0))) := ⟨by rw [← hq_]; exact (by (with_reducible repeat (first | refine blk_drewN ?_ _ | refine blk_drew ?_ | refine blk_alloc ?_ _)); exact BK503.out)⟩; have n2_ : Aside0 (Below w.heap.size w w34) := ⟨by rw [← hq_]; exact (by repeat (first | (with_reducible first | exact HB.out | apply below_alloc | apply pw_below_drewN | apply below_drew1 | refine below_set ?_ GE502.out | refine below_set ?_ GE503.out) | exact HB.out))⟩; clear BK502 BK503 HB hq_; have BK502 := n0_; have BK503 := n1_; have HB := n2_; clear n0_ n1_ n2_))
        have n0_ := Aside0.mk (blk_drew BK502.out)
        have n1_ := Aside0.mk (blk_drew BK503.out)
        have n2_ := Aside0.mk (below_drew1 HB.out)
        clear BK502
        clear BK503
        clear HB
        have BK502 := n0_
        have BK503 := n1_
        have HB := n2_
        clear n0_ n1_ n2_
        refine start_ (n := 5) (S := fun w' => w'.cell? ⟨gb503, 0, none⟩ = some (.int .i64 a0) ∧ w'.cell? ⟨gb503, 1, none⟩ = some (.int .u64 t506) ∧ w'.cell? ⟨gb503, 2, none⟩ = some (.string (⟨#[]⟩ : ByteArray))) (ds := []) #[false, false, false, false, false] (by kernel_rfl) rfl rfl ⟨(blk_cell BK503.out 0).trans rfl, (blk_cell BK503.out 1).trans rfl, (blk_cell BK503.out 2).trans rfl⟩ (fun hHeld => ?_)
        generalize w34.drew = w35 at BK502 BK503 HB hHeld ⊢
        refine take_ (i := 0) (N := some 57) (v := ?_) (a' := ?_) #[true, false, false, false, false] rfl rfl (by kernel_rfl) (fun _ _ _ h => h) (Or.inl ⟨by rfl, ?_⟩) hHeld ?_ ?_
        rotate_left
        ·rintro w' ⟨s0, s1, s2⟩
         go_simp
         with_reducible rfl
        rotate_left
        ·simp only [Act.put, List.setIfInBounds_toArray, List.set_cons_zero, List.set_cons_succ, i64_w, i32_w]
         rfl
        refine take_ (i := 1) (N := some 58) (v := ?_) (a' := ?_) #[true, true, false, false, false] rfl rfl (by kernel_rfl) (fun _ _ _ h => h) (Or.inl ⟨by rfl, ?_⟩) hHeld ?_ ?_
        rotate_left
        ·rintro w' ⟨s0, s1, s2⟩
         go_simp
         with_reducible rfl
        rotate_left
        ·simp only [Act.put, List.setIfInBounds_toArray, List.set_cons_zero, List.set_cons_succ, i64_w, i32_w]
         rfl
        refine one_ (i := 2) (N := some 59) #[true, true, true, false, false] rfl rfl (by kernel_rfl) (by decide) (fun K hK => ?_)
        refine goes_ Try.func42 (by kernel_rfl) rfl #[.agg #[.int .i64 a0, .int .u64 t506, .string (⟨#[]⟩ : ByteArray)]] (by rfl) rfl rfl (by (try simp only [List.map_toArray, List.map_cons, List.map_nil]); first | done | rfl | (simp only [List.length_drop, List.length_take]; rfl)) ?_
        with_reducible refine (kind_Valid.calls kj12 a0 t506 (⟨#[]⟩ : ByteArray) t512 _ A31.out).mono ?_
        rintro e w36 ⟨rfl, hb⟩
        refine ⟨_, rfl, ?_⟩
        have n0_ := Aside0.mk (blk_below (g := gb502) (o := .cells #[.int .i64 0, .int .u64 0, .string (⟨#[]⟩ : ByteArray)] 51 (0, 0)) (by (with_reducible repeat (first | refine blk_drewN ?_ _ | refine blk_drew ?_ | refine blk_alloc ?_ _)); exact BK502.out) hb)
        have n1_ := Aside0.mk (blk_below (g := gb503) (o := .cells #[.int .i64 a0, .int .u64 t506, .string (⟨#[]⟩ : ByteArray)] 51 (0, 0)) (by (with_reducible repeat (first | refine blk_drewN ?_ _ | refine blk_drew ?_ | refine blk_alloc ?_ _)); exact BK503.out) hb)
        have n2_ := Aside0.mk (below_step (by repeat (first | (with_reducible first | exact HB.out | apply below_alloc | apply pw_below_drewN | apply below_drew1 | refine below_set ?_ GE502.out | refine below_set ?_ GE503.out) | exact HB.out)) hb)
        clear BK502
        clear BK503
        clear HB
        have BK502 := n0_
        have BK503 := n1_
        have HB := n2_
        clear n0_ n1_ n2_
        (try clear hb)
        (try clear hb2)
        (try clear hk)
        (try clear hi)
        refine hK.out _ _ ⟨(blk_cell BK503.out 0).trans rfl, (blk_cell BK503.out 1).trans rfl, (blk_cell BK503.out 2).trans rfl⟩ (fun hHeld => ?_)
        clear hK K
        refine norm_ (a' := ?_) ?_ ?_
        rotate_left
        ·show Act.put _ (some 59) _ = _
         simp only [Act.put, List.setIfInBounds_toArray, List.set_cons_zero, List.set_cons_succ, i64_w, i32_w]
         rfl
        refine one_ (i := 3) (N := none) #[true, true, true, true, false] rfl rfl (by kernel_rfl) (by decide) (fun K hK => ?_)
        have hs37 : w36.cell? ⟨gb502, 0, none⟩ = some (.int .i64 0) := (blk_cell BK502.out 0).trans rfl
        have hfs37 := blk_frozen BK502.out 0
        have hns37_1 := NB503_502.out
        have hms37_1 := NB502_503.out
        have hs38 : w36.cell? ⟨gb502, 1, none⟩ = some (.int .u64 0) := (blk_cell BK502.out 1).trans rfl
        have hfs38 := blk_frozen BK502.out 1
        have hns38_1 := NB503_502.out
        have hms38_1 := NB502_503.out
        have hs39 : w36.cell? ⟨gb502, 2, none⟩ = some (.string (⟨#[]⟩ : ByteArray)) := (blk_cell BK502.out 2).trans rfl
        have hfs39 := blk_frozen BK502.out 2
        have hns39_1 := NB503_502.out
        have hms39_1 := NB502_503.out
        refine skip_ (w1 := ?_) (by rfl) rfl ?_ ?_
        rotate_left
        ·go_simp
         rfl
        refine hK.out _ _ ⟨((cell_far (p := ⟨gb502, _, none⟩) NB503_502.out _).trans (((cell_far (p := ⟨gb502, _, none⟩) NB503_502.out _).trans (((cell_far (p := ⟨gb502, _, none⟩) NB503_502.out _).trans (hHeld.1)))))), ((cell_far (p := ⟨gb502, _, none⟩) NB503_502.out _).trans (((cell_far (p := ⟨gb502, _, none⟩) NB503_502.out _).trans (((cell_far (p := ⟨gb502, _, none⟩) NB503_502.out _).trans (hHeld.2.1)))))), ((cell_far (p := ⟨gb502, _, none⟩) NB503_502.out _).trans (((cell_far (p := ⟨gb502, _, none⟩) NB503_502.out _).trans (((cell_far (p := ⟨gb502, _, none⟩) NB503_502.out _).trans (hHeld.2.2))))))⟩ (fun hHeld => ?_)
        clear hK K
        refine pure_ (i := 4) (N := some 5) (v := ?_) (a' := ?_) #[true, true, true, true, true] rfl rfl (by kernel_rfl) (fun _ _ _ h => h) (Or.inl ⟨by rfl, ?_⟩) ?_ ?_
        rotate_left
        ·intro w'
         go_simp
         with_reducible rfl
        rotate_left
        ·simp only [Act.put, List.setIfInBounds_toArray, List.set_cons_zero, List.set_cons_succ, i64_w, i32_w]
         rfl
        refine done_ (by kernel_rfl) ?_
        try go_wp2
        refine bodyPost_ret (results_ct rfl _ _ gb502 51 #[.int .i64 a0, .int .u64 t506, .string (⟨#[]⟩ : ByteArray)] (0, 0) _ rfl (by (with_reducible repeat (first | refine blk_drewN ?_ _ | refine blk_drew ?_ | refine blk_alloc ?_ _)); refine blk_put (cs := #[.int .i64 a0, .int .u64 t506, .string (⟨#[]⟩ : ByteArray)]) ?_ 2 _ rfl; (with_reducible repeat (first | refine blk_drewN ?_ _ | refine blk_drew ?_ | refine blk_alloc ?_ _)); refine blk_put (cs := #[.int .i64 a0, .int .u64 0, .string (⟨#[]⟩ : ByteArray)]) ?_ 1 _ rfl; (with_reducible repeat (first | refine blk_drewN ?_ _ | refine blk_drew ?_ | refine blk_alloc ?_ _)); refine blk_put (cs := #[.int .i64 0, .int .u64 0, .string (⟨#[]⟩ : ByteArray)]) ?_ 0 _ rfl; (with_reducible repeat (first | refine blk_drewN ?_ _ | refine blk_drew ?_ | refine blk_alloc ?_ _)); exact BK502.out) Try.underlying51 rfl (by kernel_rfl)) rfl ?_
        exact ⟨by first | rfl | (simp [errW_none, errW_some] <;> rfl) | (simp [*, errW_none, errW_some] <;> rfl), by repeat (first | (with_reducible first | exact HB.out | apply below_alloc | apply pw_below_drewN | apply below_drew1 | refine below_set ?_ GE502.out | refine below_set ?_ GE503.out) | exact HB.out)⟩
   ·replace c11 := Bool.eq_false_iff.mpr c11
    subst c11
    have H1 : ((kind_Bool.f).bind fun t513 => (if a0 = t513 then (if (l1.length : Int) = 1 then (if 0 < (l1.length : Int) then ((kind_Valid.f kj3 a0 (IntKind.u64.wrap (rd l1 0)) (⟨#[]⟩ : ByteArray)).bind fun t515 => (some (a0, IntKind.u64.wrap (rd l1 0), (⟨#[]⟩ : ByteArray), t515))) else (none)) else (some (a0, 0, (⟨#[]⟩ : ByteArray), false))) else ((kind_Valid.f kj3 a0 0 (strOfNums l1)).bind fun t516 => (some (a0, 0, strOfNums l1, t516))))) = some (r1, r2, r3, r4) := by rw [if_neg (show ¬ (false = true) by decide)] at H; exact H
    clear H
    have H := H1
    clear H1
    replace H := Option.bind_eq_some_iff.mp H
    obtain ⟨t513, A400, H⟩ := H
    replace H : (if a0 = t513 then (if (l1.length : Int) = 1 then (if 0 < (l1.length : Int) then ((kind_Valid.f kj3 a0 (IntKind.u64.wrap (rd l1 0)) (⟨#[]⟩ : ByteArray)).bind fun t515 => (some (a0, IntKind.u64.wrap (rd l1 0), (⟨#[]⟩ : ByteArray), t515))) else (none)) else (some (a0, 0, (⟨#[]⟩ : ByteArray), false))) else ((kind_Valid.f kj3 a0 0 (strOfNums l1)).bind fun t516 => (some (a0, 0, strOfNums l1, t516)))) = some (r1, r2, r3, r4) := H
    have A40 := Aside0.mk A400
    clear A400
    by_cases c41 : a0 = t513
    ·rw [if_pos c41] at H
     have c41b0 : (a0 == t513) = true := beq_iff_eq.mpr c41
     have c41b1 : (a0 != t513) = false := bne_eq_false_iff_eq.mpr c41
     clear c41
     by_cases c42 : (l1.length : Int) = 1
     ·rw [if_pos c42] at H
      have c42b0 : ((l1.length : Int) == 1) = true := beq_iff_eq.mpr c42
      have c42b1 : ((l1.length : Int) != 1) = false := bne_eq_false_iff_eq.mpr c42
      clear c42
      by_cases c43 : 0 < (l1.length : Int)
      ·rw [if_pos c43] at H
       have c43b0 : decide (0 < (l1.length : Int)) = true := decide_eq_true c43
       have c43b1 : decide (0 < l1.length) = true := decide_eq_true (by omega)
       clear c43
       replace H := Option.bind_eq_some_iff.mp H
       obtain ⟨t515, A440, H⟩ := H
       replace H : (some (a0, IntKind.u64.wrap (rd l1 0), (⟨#[]⟩ : ByteArray), t515)) = some (r1, r2, r3, r4) := H
       have A44 := Aside0.mk A440
       clear A440
       simp only [Option.some.injEq, Prod.mk.injEq] at H
       obtain ⟨rfl, rfl, rfl, rfl⟩ := H
       try go_wp2_with (first | ((with_reducible refine gate_callee (f := 47) rfl ?_); refine goesL_ (some 46) rfl rfl Try.func47 (by kernel_rfl) rfl #[] rfl (by (try simp only [List.map_toArray, List.map_cons, List.map_nil]); first | done | rfl | (simp only [List.length_drop, List.length_take]; rfl)) ?_; (with_reducible refine (kind_Bool.calls  t513 _ A40.out).mono ?_); rintro e w' ⟨rfl, ⟨nd, rfl⟩⟩; refine ⟨_, rfl, ?_⟩; (try (rw [drewN_self wc]; generalize hq_ : World.drewN wc _ = wc; have n0_ : Aside0 (wc.heap[gb502]? = some (.cells #[.int .i64 0, .int .u64 0, .string (⟨#[]⟩ : ByteArray)] 51 (0, 0))) := ⟨by rw [← hq_]; exact (by (with_reducible repeat (first | refine blk_drewN ?_ _ | refine blk_drew ?_ | refine blk_alloc ?_ _)); exact BK502.out)⟩; have n1_ : Aside0 (wc.heap[gb503]? = some (.cells #[.int .i64 a0, .int .u64 0, .string (⟨#[]⟩ : ByteArray)] 51 (0, 0))) := ⟨by rw [← hq_]; exact (by (with_reducible repeat (first | refine blk_drewN ?_ _ | refine blk_drew ?_ | refine blk_alloc ?_ _)); exact BK503.out)⟩; have n2_ : Aside0 (Below w.heap.size w wc) := ⟨by rw [← hq_]; exact (by repeat (first | (with_reducible first | exact HB.out | apply below_alloc | apply pw_below_drewN | apply below_drew1 | refine below_set ?_ GE502.out | refine below_set ?_ GE503.out) | exact HB.out))⟩; clear BK502 BK503 HB hq_; have BK502 := n0_; have BK503 := n1_; have HB := n2_; clear n0_ n1_ n2_)); have p514 : 0 ≤ (0 : Int) := (by omega); have q514 : 0 < (l1.length : Int) := of_decide_eq_true (by first | (with_reducible assumption) | assumption); obtain ⟨ad514, e514, hx514_0⟩ := Kd.at_int HR1.out 0 p514 q514; cases e514; have qi514 : (0 < l1.length) = True := eq_true (by omega); (try rw [show ((0 : Int)).toNat = 0 from rfl] at hx514_0); (try rw [Addr.add_zero'] at hx514_0); replace hx514_0 := (HB.out.cell (World.block_lt_of_cell? w _ hx514_0)).trans hx514_0; replace p514 := eq_true p514; replace q514 := eq_true q514; have hnb45 := NB503_502.out; have hnc45 := NB502_503.out; have hcz46_0 : wc.cell? ⟨gb503, 0, none⟩ = some (.int .i64 a0) := (blk_cell BK503.out 0).trans rfl; have hcz46_1 : wc.cell? ⟨gb503, 1, none⟩ = some (.int .u64 0) := (blk_cell BK503.out 1).trans rfl; have hcz46_2 : wc.cell? ⟨gb503, 2, none⟩ = some (.string (⟨#[]⟩ : ByteArray)) := (blk_cell BK503.out 2).trans rfl; have hfz46_0 := blk_frozen BK503.out 0; have hfz46_1 := blk_frozen BK503.out 1; have hfz46_2 := blk_frozen BK503.out 2))
       have n0_ : Aside0 ((wc.setCell ⟨gb503, 1, none⟩ (.int .u64 (IntKind.u64.wrap (rd l1 0)))).heap[gb502]? = some (.cells #[.int .i64 0, .int .u64 0, .string (⟨#[]⟩ : ByteArray)] 51 (0, 0))) := ⟨by (with_reducible repeat (first | refine blk_drewN ?_ _ | refine blk_drew ?_ | refine blk_alloc ?_ _)); refine blk_far ?_ NB502_503.out _; (with_reducible repeat (first | refine blk_drewN ?_ _ | refine blk_drew ?_ | refine blk_alloc ?_ _)); exact BK502.out⟩
       have n1_ : Aside0 ((wc.setCell ⟨gb503, 1, none⟩ (.int .u64 (IntKind.u64.wrap (rd l1 0)))).heap[gb503]? = some (.cells #[.int .i64 a0, .int .u64 (IntKind.u64.wrap (rd l1 0)), .string (⟨#[]⟩ : ByteArray)] 51 (0, 0))) := ⟨by (with_reducible repeat (first | refine blk_drewN ?_ _ | refine blk_drew ?_ | refine blk_alloc ?_ _)); refine blk_put (cs := #[.int .i64 a0, .int .u64 0, .string (⟨#[]⟩ : ByteArray)]) ?_ 1 _ rfl; (with_reducible repeat (first | refine blk_drewN ?_ _ | refine blk_drew ?_ | refine blk_alloc ?_ _)); exact BK503.out⟩
       have n2_ : Aside0 (Below w.heap.size w (wc.setCell ⟨gb503, 1, none⟩ (.int .u64 (IntKind.u64.wrap (rd l1 0))))) := ⟨by repeat (first | (with_reducible first | exact HB.out | apply below_alloc | apply pw_below_drewN | apply below_drew1 | refine below_set ?_ GE502.out | refine below_set ?_ GE503.out) | exact HB.out)⟩
       (try clear BK502)
       (try clear BK503)
       (try clear HB)
       (try simp only [show ∀ (w_ : World) (n_ : Nat) (p_ : Addr) (u_ : Value), (w_.drewN n_).setCell p_ u_ = (w_.setCell p_ u_).drewN n_ from fun _ _ _ _ => rfl])
       generalize (wc.setCell ⟨gb503, 1, none⟩ (.int .u64 (IntKind.u64.wrap (rd l1 0)))) = w47 at n0_ n1_ n2_ ⊢
       have BK502 := n0_
       have BK503 := n1_
       have HB := n2_
       clear n0_ n1_ n2_
       have n0_ := Aside0.mk (blk_drew BK502.out)
       have n1_ := Aside0.mk (blk_drew BK503.out)
       have n2_ := Aside0.mk (below_drew1 HB.out)
       clear BK502
       clear BK503
       clear HB
       have BK502 := n0_
       have BK503 := n1_
       have HB := n2_
       clear n0_ n1_ n2_
       refine start_ (n := 5) (S := fun w' => w'.cell? ⟨gb503, 0, none⟩ = some (.int .i64 a0) ∧ w'.cell? ⟨gb503, 1, none⟩ = some (.int .u64 (IntKind.u64.wrap (rd l1 0))) ∧ w'.cell? ⟨gb503, 2, none⟩ = some (.string (⟨#[]⟩ : ByteArray))) (ds := []) #[false, false, false, false, false] (by kernel_rfl) rfl rfl ⟨(blk_cell BK503.out 0).trans rfl, (blk_cell BK503.out 1).trans rfl, (blk_cell BK503.out 2).trans rfl⟩ (fun hHeld => ?_)
       generalize w47.drew = w48 at BK502 BK503 HB hHeld ⊢
       refine take_ (i := 0) (N := some 57) (v := ?_) (a' := ?_) #[true, false, false, false, false] rfl rfl (by kernel_rfl) (fun _ _ _ h => h) (Or.inl ⟨by rfl, ?_⟩) hHeld ?_ ?_
       rotate_left
       ·rintro w' ⟨s0, s1, s2⟩
        go_simp
        with_reducible rfl
       rotate_left
       ·simp only [Act.put, List.setIfInBounds_toArray, List.set_cons_zero, List.set_cons_succ, i64_w, i32_w]
        rfl
       refine take_ (i := 1) (N := some 58) (v := ?_) (a' := ?_) #[true, true, false, false, false] rfl rfl (by kernel_rfl) (fun _ _ _ h => h) (Or.inl ⟨by rfl, ?_⟩) hHeld ?_ ?_
       rotate_left
       ·rintro w' ⟨s0, s1, s2⟩
        go_simp
        with_reducible rfl
       rotate_left
       ·simp only [Act.put, List.setIfInBounds_toArray, List.set_cons_zero, List.set_cons_succ, i64_w, i32_w]
        rfl
       refine one_ (i := 2) (N := some 59) #[true, true, true, false, false] rfl rfl (by kernel_rfl) (by decide) (fun K hK => ?_)
       refine goes_ Try.func42 (by kernel_rfl) rfl #[.agg #[.int .i64 a0, .int .u64 (IntKind.u64.wrap (rd l1 0)), .string (⟨#[]⟩ : ByteArray)]] (by rfl) rfl rfl (by (try simp only [List.map_toArray, List.map_cons, List.map_nil]); first | done | rfl | (simp only [List.length_drop, List.length_take]; rfl)) ?_
       with_reducible refine (kind_Valid.calls kj3 a0 (IntKind.u64.wrap (rd l1 0)) (⟨#[]⟩ : ByteArray) t515 _ A44.out).mono ?_
       rintro e w49 ⟨rfl, hb⟩
       refine ⟨_, rfl, ?_⟩
       have n0_ := Aside0.mk (blk_below (g := gb502) (o := .cells #[.int .i64 0, .int .u64 0, .string (⟨#[]⟩ : ByteArray)] 51 (0, 0)) (by (with_reducible repeat (first | refine blk_drewN ?_ _ | refine blk_drew ?_ | refine blk_alloc ?_ _)); exact BK502.out) hb)
       have n1_ := Aside0.mk (blk_below (g := gb503) (o := .cells #[.int .i64 a0, .int .u64 (IntKind.u64.wrap (rd l1 0)), .string (⟨#[]⟩ : ByteArray)] 51 (0, 0)) (by (with_reducible repeat (first | refine blk_drewN ?_ _ | refine blk_drew ?_ | refine blk_alloc ?_ _)); exact BK503.out) hb)
       have n2_ := Aside0.mk (below_step (by repeat (first | (with_reducible first | exact HB.out | apply below_alloc | apply pw_below_drewN | apply below_drew1 | refine below_set ?_ GE502.out | refine below_set ?_ GE503.out) | exact HB.out)) hb)
       clear BK502
       clear BK503
       clear HB
       have BK502 := n0_
       have BK503 := n1_
       have HB := n2_
       clear n0_ n1_ n2_
       (try clear hb)
       (try clear hb2)
       (try clear hk)
       (try clear hi)
       refine hK.out _ _ ⟨(blk_cell BK503.out 0).trans rfl, (blk_cell BK503.out 1).trans rfl, (blk_cell BK503.out 2).trans rfl⟩ (fun hHeld => ?_)
       clear hK K
       refine norm_ (a' := ?_) ?_ ?_
       rotate_left
       ·show Act.put _ (some 59) _ = _
        simp only [Act.put, List.setIfInBounds_toArray, List.set_cons_zero, List.set_cons_succ, i64_w, i32_w]
        rfl
       refine one_ (i := 3) (N := none) #[true, true, true, true, false] rfl rfl (by kernel_rfl) (by decide) (fun K hK => ?_)
       have hs50 : w49.cell? ⟨gb502, 0, none⟩ = some (.int .i64 0) := (blk_cell BK502.out 0).trans rfl
       have hfs50 := blk_frozen BK502.out 0
       have hns50_1 := NB503_502.out
       have hms50_1 := NB502_503.out
       have hs51 : w49.cell? ⟨gb502, 1, none⟩ = some (.int .u64 0) := (blk_cell BK502.out 1).trans rfl
       have hfs51 := blk_frozen BK502.out 1
       have hns51_1 := NB503_502.out
       have hms51_1 := NB502_503.out
       have hs52 : w49.cell? ⟨gb502, 2, none⟩ = some (.string (⟨#[]⟩ : ByteArray)) := (blk_cell BK502.out 2).trans rfl
       have hfs52 := blk_frozen BK502.out 2
       have hns52_1 := NB503_502.out
       have hms52_1 := NB502_503.out
       refine skip_ (w1 := ?_) (by rfl) rfl ?_ ?_
       rotate_left
       ·go_simp
        rfl
       refine hK.out _ _ ⟨((cell_far (p := ⟨gb502, _, none⟩) NB503_502.out _).trans (((cell_far (p := ⟨gb502, _, none⟩) NB503_502.out _).trans (((cell_far (p := ⟨gb502, _, none⟩) NB503_502.out _).trans (hHeld.1)))))), ((cell_far (p := ⟨gb502, _, none⟩) NB503_502.out _).trans (((cell_far (p := ⟨gb502, _, none⟩) NB503_502.out _).trans (((cell_far (p := ⟨gb502, _, none⟩) NB503_502.out _).trans (hHeld.2.1)))))), ((cell_far (p := ⟨gb502, _, none⟩) NB503_502.out _).trans (((cell_far (p := ⟨gb502, _, none⟩) NB503_502.out _).trans (((cell_far (p := ⟨gb502, _, none⟩) NB503_502.out _).trans (hHeld.2.2))))))⟩ (fun hHeld => ?_)
       clear hK K
       refine pure_ (i := 4) (N := some 5) (v := ?_) (a' := ?_) #[true, true, true, true, true] rfl rfl (by kernel_rfl) (fun _ _ _ h => h) (Or.inl ⟨by rfl, ?_⟩) ?_ ?_
       rotate_left
       ·intro w'
        go_simp
        with_reducible rfl
       rotate_left
       ·simp only [Act.put, List.setIfInBounds_toArray, List.set_cons_zero, List.set_cons_succ, i64_w, i32_w]
        rfl
       refine done_ (by kernel_rfl) ?_
       try go_wp2
       refine bodyPost_ret (results_ct rfl _ _ gb502 51 #[.int .i64 a0, .int .u64 (IntKind.u64.wrap (rd l1 0)), .string (⟨#[]⟩ : ByteArray)] (0, 0) _ rfl (by (with_reducible repeat (first | refine blk_drewN ?_ _ | refine blk_drew ?_ | refine blk_alloc ?_ _)); refine blk_put (cs := #[.int .i64 a0, .int .u64 (IntKind.u64.wrap (rd l1 0)), .string (⟨#[]⟩ : ByteArray)]) ?_ 2 _ rfl; (with_reducible repeat (first | refine blk_drewN ?_ _ | refine blk_drew ?_ | refine blk_alloc ?_ _)); refine blk_put (cs := #[.int .i64 a0, .int .u64 0, .string (⟨#[]⟩ : ByteArray)]) ?_ 1 _ rfl; (with_reducible repeat (first | refine blk_drewN ?_ _ | refine blk_drew ?_ | refine blk_alloc ?_ _)); refine blk_put (cs := #[.int .i64 0, .int .u64 0, .string (⟨#[]⟩ : ByteArray)]) ?_ 0 _ rfl; (with_reducible repeat (first | refine blk_drewN ?_ _ | refine blk_drew ?_ | refine blk_alloc ?_ _)); exact BK502.out) Try.underlying51 rfl (by kernel_rfl)) rfl ?_
       exact ⟨by first | rfl | (simp [errW_none, errW_some] <;> rfl) | (simp [*, errW_none, errW_some] <;> rfl), by repeat (first | (with_reducible first | exact HB.out | apply below_alloc | apply pw_below_drewN | apply below_drew1 | refine below_set ?_ GE502.out | refine below_set ?_ GE503.out) | exact HB.out)⟩
      ·rw [if_neg c43] at H
       exact absurd H (by simp)
     ·rw [if_neg c42] at H
      have c42b0 : ((l1.length : Int) == 1) = false := beq_eq_false_iff_ne.mpr c42
      have c42b1 : ((l1.length : Int) != 1) = true := bne_iff_ne.mpr c42
      simp only [Option.some.injEq, Prod.mk.injEq] at H
      obtain ⟨rfl, rfl, rfl, rfl⟩ := H
      go_wp2_with (first | ((with_reducible refine gate_callee (f := 47) rfl ?_); refine goesL_ (some 46) rfl rfl Try.func47 (by kernel_rfl) rfl #[] rfl (by (try simp only [List.map_toArray, List.map_cons, List.map_nil]); first | done | rfl | (simp only [List.length_drop, List.length_take]; rfl)) ?_; (with_reducible refine (kind_Bool.calls  t513 _ A40.out).mono ?_); rintro e w' ⟨rfl, ⟨nd, rfl⟩⟩; refine ⟨_, rfl, ?_⟩; (try (rw [drewN_self wc]; generalize hq_ : World.drewN wc _ = wc; have n0_ : Aside0 (wc.heap[gb502]? = some (.cells #[.int .i64 0, .int .u64 0, .string (⟨#[]⟩ : ByteArray)] 51 (0, 0))) := ⟨by rw [← hq_]; exact (by (with_reducible repeat (first | refine blk_drewN ?_ _ | refine blk_drew ?_ | refine blk_alloc ?_ _)); exact BK502.out)⟩; have n1_ : Aside0 (wc.heap[gb503]? = some (.cells #[.int .i64 a0, .int .u64 0, .string (⟨#[]⟩ : ByteArray)] 51 (0, 0))) := ⟨by rw [← hq_]; exact (by (with_reducible repeat (first | refine blk_drewN ?_ _ | refine blk_drew ?_ | refine blk_alloc ?_ _)); exact BK503.out)⟩; have n2_ : Aside0 (Below w.heap.size w wc) := ⟨by rw [← hq_]; exact (by repeat (first | (with_reducible first | exact HB.out | apply below_alloc | apply pw_below_drewN | apply below_drew1 | refine below_set ?_ GE502.out | refine below_set ?_ GE503.out) | exact HB.out))⟩; clear BK502 BK503 HB hq_; have BK502 := n0_; have BK503 := n1_; have HB := n2_; clear n0_ n1_ n2_)); have hnb53 := NB503_502.out; have hnc53 := NB502_503.out; have hcz54_0 : wc.cell? ⟨gb503, 0, none⟩ = some (.int .i64 a0) := (blk_cell BK503.out 0).trans rfl; have hcz54_1 : wc.cell? ⟨gb503, 1, none⟩ = some (.int .u64 0) := (blk_cell BK503.out 1).trans rfl; have hcz54_2 : wc.cell? ⟨gb503, 2, none⟩ = some (.string (⟨#[]⟩ : ByteArray)) := (blk_cell BK503.out 2).trans rfl; have hfz54_0 := blk_frozen BK503.out 0; have hfz54_1 := blk_frozen BK503.out 1; have hfz54_2 := blk_frozen BK503.out 2; have hcz55_0 : wc.cell? ⟨gb502, 0, none⟩ = some (.int .i64 0) := (blk_cell BK502.out 0).trans rfl; have hcz55_1 : wc.cell? ⟨gb502, 1, none⟩ = some (.int .u64 0) := (blk_cell BK502.out 1).trans rfl; have hcz55_2 : wc.cell? ⟨gb502, 2, none⟩ = some (.string (⟨#[]⟩ : ByteArray)) := (blk_cell BK502.out 2).trans rfl; have hfz55_0 := blk_frozen BK502.out 0; have hfz55_1 := blk_frozen BK502.out 1; have hfz55_2 := blk_frozen BK502.out 2))
      refine bodyPost_ret (results_ct rfl _ _ gb502 51 #[.int .i64 a0, .int .u64 0, .string (⟨#[]⟩ : ByteArray)] (0, 0) _ rfl (by (with_reducible repeat (first | refine blk_drewN ?_ _ | refine blk_drew ?_ | refine blk_alloc ?_ _)); refine blk_put (cs := #[.int .i64 a0, .int .u64 0, .string (⟨#[]⟩ : ByteArray)]) ?_ 2 _ rfl; (with_reducible repeat (first | refine blk_drewN ?_ _ | refine blk_drew ?_ | refine blk_alloc ?_ _)); refine blk_put (cs := #[.int .i64 a0, .int .u64 0, .string (⟨#[]⟩ : ByteArray)]) ?_ 1 _ rfl; (with_reducible repeat (first | refine blk_drewN ?_ _ | refine blk_drew ?_ | refine blk_alloc ?_ _)); refine blk_put (cs := #[.int .i64 0, .int .u64 0, .string (⟨#[]⟩ : ByteArray)]) ?_ 0 _ rfl; (with_reducible repeat (first | refine blk_drewN ?_ _ | refine blk_drew ?_ | refine blk_alloc ?_ _)); exact BK502.out) Try.underlying51 rfl (by kernel_rfl)) rfl ?_
      exact ⟨by first | rfl | (simp [errW_none, errW_some] <;> rfl) | (simp [*, errW_none, errW_some] <;> rfl), by repeat (first | (with_reducible first | exact HB.out | apply below_alloc | apply pw_below_drewN | apply below_drew1 | refine below_set ?_ GE502.out | refine below_set ?_ GE503.out) | exact HB.out)⟩
    ·rw [if_neg c41] at H
     have c41b0 : (a0 == t513) = false := beq_eq_false_iff_ne.mpr c41
     have c41b1 : (a0 != t513) = true := bne_iff_ne.mpr c41
     replace H := Option.bind_eq_some_iff.mp H
     obtain ⟨t516, A560, H⟩ := H
     replace H : (some (a0, 0, strOfNums l1, t516)) = some (r1, r2, r3, r4) := H
     have A56 := Aside0.mk A560
     clear A560
     simp only [Option.some.injEq, Prod.mk.injEq] at H
     obtain ⟨rfl, rfl, rfl, rfl⟩ := H
     try go_wp2_with (first | ((with_reducible refine gate_callee (f := 47) rfl ?_); refine goesL_ (some 46) rfl rfl Try.func47 (by kernel_rfl) rfl #[] rfl (by (try simp only [List.map_toArray, List.map_cons, List.map_nil]); first | done | rfl | (simp only [List.length_drop, List.length_take]; rfl)) ?_; (with_reducible refine (kind_Bool.calls  t513 _ A40.out).mono ?_); rintro e w' ⟨rfl, ⟨nd, rfl⟩⟩; refine ⟨_, rfl, ?_⟩; (try (rw [drewN_self wc]; generalize hq_ : World.drewN wc _ = wc; have n0_ : Aside0 (wc.heap[gb502]? = some (.cells #[.int .i64 0, .int .u64 0, .string (⟨#[]⟩ : ByteArray)] 51 (0, 0))) := ⟨by rw [← hq_]; exact (by (with_reducible repeat (first | refine blk_drewN ?_ _ | refine blk_drew ?_ | refine blk_alloc ?_ _)); exact BK502.out)⟩; have n1_ : Aside0 (wc.heap[gb503]? = some (.cells #[.int .i64 a0, .int .u64 0, .string (⟨#[]⟩ : ByteArray)] 51 (0, 0))) := ⟨by rw [← hq_]; exact (by (with_reducible repeat (first | refine blk_drewN ?_ _ | refine blk_drew ?_ | refine blk_alloc ?_ _)); exact BK503.out)⟩; have n2_ : Aside0 (Below w.heap.size w wc) := ⟨by rw [← hq_]; exact (by repeat (first | (with_reducible first | exact HB.out | apply below_alloc | apply pw_below_drewN | apply below_drew1 | refine below_set ?_ GE502.out | refine below_set ?_ GE503.out) | exact HB.out))⟩; clear BK502 BK503 HB hq_; have BK502 := n0_; have BK503 := n1_; have HB := n2_; clear n0_ n1_ n2_)); have hcv57 := Kd.C_string (P := Try.prog) (A := A1) (c := c1) Try.underlying63 Try.underlying5 Try.underlying9 (Kd.C_below HR1.out HB.out); have hnb58 := NB503_502.out; have hnc58 := NB502_503.out; have hcz59_0 : wc.cell? ⟨gb503, 0, none⟩ = some (.int .i64 a0) := (blk_cell BK503.out 0).trans rfl; have hcz59_1 : wc.cell? ⟨gb503, 1, none⟩ = some (.int .u64 0) := (blk_cell BK503.out 1).trans rfl; have hcz59_2 : wc.cell? ⟨gb503, 2, none⟩ = some (.string (⟨#[]⟩ : ByteArray)) := (blk_cell BK503.out 2).trans rfl; have hfz59_0 := blk_frozen BK503.out 0; have hfz59_1 := blk_frozen BK503.out 1; have hfz59_2 := blk_frozen BK503.out 2))
     have n0_ : Aside0 ((wc.setCell ⟨gb503, 2, none⟩ (.string (strOfNums l1))).heap[gb502]? = some (.cells #[.int .i64 0, .int .u64 0, .string (⟨#[]⟩ : ByteArray)] 51 (0, 0))) := ⟨by (with_reducible repeat (first | refine blk_drewN ?_ _ | refine blk_drew ?_ | refine blk_alloc ?_ _)); refine blk_far ?_ NB502_503.out _; (with_reducible repeat (first | refine blk_drewN ?_ _ | refine blk_drew ?_ | refine blk_alloc ?_ _)); exact BK502.out⟩
     have n1_ : Aside0 ((wc.setCell ⟨gb503, 2, none⟩ (.string (strOfNums l1))).heap[gb503]? = some (.cells #[.int .i64 a0, .int .u64 0, .string (strOfNums l1)] 51 (0, 0))) := ⟨by (with_reducible repeat (first | refine blk_drewN ?_ _ | refine blk_drew ?_ | refine blk_alloc ?_ _)); refine blk_put (cs := #[.int .i64 a0, .int .u64 0, .string (⟨#[]⟩ : ByteArray)]) ?_ 2 _ rfl; (with_reducible repeat (first | refine blk_drewN ?_ _ | refine blk_drew ?_ | refine blk_alloc ?_ _)); exact BK503.out⟩
     have n2_ : Aside0 (Below w.heap.size w (wc.setCell ⟨gb503, 2, none⟩ (.string (strOfNums l1)))) := ⟨by repeat (first | (with_reducible first | exact HB.out | apply below_alloc | apply pw_below_drewN | apply below_drew1 | refine below_set ?_ GE502.out | refine below_set ?_ GE503.out) | exact HB.out)⟩
     (try clear BK502)
     (try clear BK503)
     (try clear HB)
     (try simp only [show ∀ (w_ : World) (n_ : Nat) (p_ : Addr) (u_ : Value), (w_.drewN n_).setCell p_ u_ = (w_.setCell p_ u_).drewN n_ from fun _ _ _ _ => rfl])
     generalize (wc.setCell ⟨gb503, 2, none⟩ (.string (strOfNums l1))) = w60 at n0_ n1_ n2_ ⊢
     have BK502 := n0_
     have BK503 := n1_
     have HB := n2_
     clear n0_ n1_ n2_
     have n0_ := Aside0.mk (blk_drew BK502.out)
     have n1_ := Aside0.mk (blk_drew BK503.out)
     have n2_ := Aside0.mk (below_drew1 HB.out)
     clear BK502
     clear BK503
     clear HB
     have BK502 := n0_
     have BK503 := n1_
     have HB := n2_
     clear n0_ n1_ n2_
     refine start_ (n := 5) (S := fun w' => w'.cell? ⟨gb503, 0, none⟩ = some (.int .i64 a0) ∧ w'.cell? ⟨gb503, 1, none⟩ = some (.int .u64 0) ∧ w'.cell? ⟨gb503, 2, none⟩ = some (.string (strOfNums l1))) (ds := []) #[false, false, false, false, false] (by kernel_rfl) rfl rfl ⟨(blk_cell BK503.out 0).trans rfl, (blk_cell BK503.out 1).trans rfl, (blk_cell BK503.out 2).trans rfl⟩ (fun hHeld => ?_)
     generalize w60.drew = w61 at BK502 BK503 HB hHeld ⊢
     refine take_ (i := 0) (N := some 57) (v := ?_) (a' := ?_) #[true, false, false, false, false] rfl rfl (by kernel_rfl) (fun _ _ _ h => h) (Or.inl ⟨by rfl, ?_⟩) hHeld ?_ ?_
     rotate_left
     ·rintro w' ⟨s0, s1, s2⟩
      go_simp
      with_reducible rfl
     rotate_left
     ·simp only [Act.put, List.setIfInBounds_toArray, List.set_cons_zero, List.set_cons_succ, i64_w, i32_w]
      rfl
     refine take_ (i := 1) (N := some 58) (v := ?_) (a' := ?_) #[true, true, false, false, false] rfl rfl (by kernel_rfl) (fun _ _ _ h => h) (Or.inl ⟨by rfl, ?_⟩) hHeld ?_ ?_
     rotate_left
     ·rintro w' ⟨s0, s1, s2⟩
      go_simp
      with_reducible rfl
     rotate_left
     ·simp only [Act.put, List.setIfInBounds_toArray, List.set_cons_zero, List.set_cons_succ, i64_w, i32_w]
      rfl
     refine one_ (i := 2) (N := some 59) #[true, true, true, false, false] rfl rfl (by kernel_rfl) (by decide) (fun K hK => ?_)
     refine goes_ Try.func42 (by kernel_rfl) rfl #[.agg #[.int .i64 a0, .int .u64 0, .string (strOfNums l1)]] (by rfl) rfl rfl (by (try simp only [List.map_toArray, List.map_cons, List.map_nil]); first | done | rfl | (simp only [List.length_drop, List.length_take]; rfl)) ?_
     with_reducible refine (kind_Valid.calls kj3 a0 0 (strOfNums l1) t516 _ A56.out).mono ?_
     rintro e w62 ⟨rfl, hb⟩
     refine ⟨_, rfl, ?_⟩
     have n0_ := Aside0.mk (blk_below (g := gb502) (o := .cells #[.int .i64 0, .int .u64 0, .string (⟨#[]⟩ : ByteArray)] 51 (0, 0)) (by (with_reducible repeat (first | refine blk_drewN ?_ _ | refine blk_drew ?_ | refine blk_alloc ?_ _)); exact BK502.out) hb)
     have n1_ := Aside0.mk (blk_below (g := gb503) (o := .cells #[.int .i64 a0, .int .u64 0, .string (strOfNums l1)] 51 (0, 0)) (by (with_reducible repeat (first | refine blk_drewN ?_ _ | refine blk_drew ?_ | refine blk_alloc ?_ _)); exact BK503.out) hb)
     have n2_ := Aside0.mk (below_step (by repeat (first | (with_reducible first | exact HB.out | apply below_alloc | apply pw_below_drewN | apply below_drew1 | refine below_set ?_ GE502.out | refine below_set ?_ GE503.out) | exact HB.out)) hb)
     clear BK502
     clear BK503
     clear HB
     have BK502 := n0_
     have BK503 := n1_
     have HB := n2_
     clear n0_ n1_ n2_
     (try clear hb)
     (try clear hb2)
     (try clear hk)
     (try clear hi)
     refine hK.out _ _ ⟨(blk_cell BK503.out 0).trans rfl, (blk_cell BK503.out 1).trans rfl, (blk_cell BK503.out 2).trans rfl⟩ (fun hHeld => ?_)
     clear hK K
     refine norm_ (a' := ?_) ?_ ?_
     rotate_left
     ·show Act.put _ (some 59) _ = _
      simp only [Act.put, List.setIfInBounds_toArray, List.set_cons_zero, List.set_cons_succ, i64_w, i32_w]
      rfl
     refine one_ (i := 3) (N := none) #[true, true, true, true, false] rfl rfl (by kernel_rfl) (by decide) (fun K hK => ?_)
     have hs63 : w62.cell? ⟨gb502, 0, none⟩ = some (.int .i64 0) := (blk_cell BK502.out 0).trans rfl
     have hfs63 := blk_frozen BK502.out 0
     have hns63_1 := NB503_502.out
     have hms63_1 := NB502_503.out
     have hs64 : w62.cell? ⟨gb502, 1, none⟩ = some (.int .u64 0) := (blk_cell BK502.out 1).trans rfl
     have hfs64 := blk_frozen BK502.out 1
     have hns64_1 := NB503_502.out
     have hms64_1 := NB502_503.out
     have hs65 : w62.cell? ⟨gb502, 2, none⟩ = some (.string (⟨#[]⟩ : ByteArray)) := (blk_cell BK502.out 2).trans rfl
     have hfs65 := blk_frozen BK502.out 2
     have hns65_1 := NB503_502.out
     have hms65_1 := NB502_503.out
     refine skip_ (w1 := ?_) (by rfl) rfl ?_ ?_
     rotate_left
     ·go_simp
      rfl
     refine hK.out _ _ ⟨((cell_far (p := ⟨gb502, _, none⟩) NB503_502.out _).trans (((cell_far (p := ⟨gb502, _, none⟩) NB503_502.out _).trans (((cell_far (p := ⟨gb502, _, none⟩) NB503_502.out _).trans (hHeld.1)))))), ((cell_far (p := ⟨gb502, _, none⟩) NB503_502.out _).trans (((cell_far (p := ⟨gb502, _, none⟩) NB503_502.out _).trans (((cell_far (p := ⟨gb502, _, none⟩) NB503_502.out _).trans (hHeld.2.1)))))), ((cell_far (p := ⟨gb502, _, none⟩) NB503_502.out _).trans (((cell_far (p := ⟨gb502, _, none⟩) NB503_502.out _).trans (((cell_far (p := ⟨gb502, _, none⟩) NB503_502.out _).trans (hHeld.2.2))))))⟩ (fun hHeld => ?_)
     clear hK K
     refine pure_ (i := 4) (N := some 5) (v := ?_) (a' := ?_) #[true, true, true, true, true] rfl rfl (by kernel_rfl) (fun _ _ _ h => h) (Or.inl ⟨by rfl, ?_⟩) ?_ ?_
     rotate_left
     ·intro w'
      go_simp
      with_reducible rfl
     rotate_left
     ·simp only [Act.put, List.setIfInBounds_toArray, List.set_cons_zero, List.set_cons_succ, i64_w, i32_w]
      rfl
     refine done_ (by kernel_rfl) ?_
     try go_wp2
     refine bodyPost_ret (results_ct rfl _ _ gb502 51 #[.int .i64 a0, .int .u64 0, .string (strOfNums l1)] (0, 0) _ rfl (by (with_reducible repeat (first | refine blk_drewN ?_ _ | refine blk_drew ?_ | refine blk_alloc ?_ _)); refine blk_put (cs := #[.int .i64 a0, .int .u64 0, .string (⟨#[]⟩ : ByteArray)]) ?_ 2 _ rfl; (with_reducible repeat (first | refine blk_drewN ?_ _ | refine blk_drew ?_ | refine blk_alloc ?_ _)); refine blk_put (cs := #[.int .i64 a0, .int .u64 0, .string (⟨#[]⟩ : ByteArray)]) ?_ 1 _ rfl; (with_reducible repeat (first | refine blk_drewN ?_ _ | refine blk_drew ?_ | refine blk_alloc ?_ _)); refine blk_put (cs := #[.int .i64 0, .int .u64 0, .string (⟨#[]⟩ : ByteArray)]) ?_ 0 _ rfl; (with_reducible repeat (first | refine blk_drewN ?_ _ | refine blk_drew ?_ | refine blk_alloc ?_ _)); exact BK502.out) Try.underlying51 rfl (by kernel_rfl)) rfl ?_
     exact ⟨by first | rfl | (simp [errW_none, errW_some] <;> rfl) | (simp [*, errW_none, errW_some] <;> rfl), by repeat (first | (with_reducible first | exact HB.out | apply below_alloc | apply pw_below_drewN | apply below_drew1 | refine below_set ?_ GE502.out | refine below_set ?_ GE503.out) | exact HB.out)⟩
end Go.Proofs.Yteejpfemaedmkaa.X
