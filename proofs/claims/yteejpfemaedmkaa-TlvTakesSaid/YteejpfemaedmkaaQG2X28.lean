-- Written by wip/printx.py: the kit's printer with functions proved by hand. Not trusted: Lean checks it.
import Derived.Test.YteejpfemaedmkaaQG2X0
import Derived.Test.YteejpfemaedmkaaQG2X15
import Derived.Test.YteejpfemaedmkaaQG2X27
namespace Go.Proofs.Yteejpfemaedmkaa.X
open Go.RowKit Go.Proofs.YteejpfemaedmkaaW.PrintWords Go.Proofs.YteejpfemaedmkaaW.PrintLast Go.Proofs.YteejpfemaedmkaaW.PrintMore
attribute [local go_sem] max2_int min2_int max_two min_two max_three min_three max_four min_four
set_option linter.unusedVariables false
set_option linter.unusedSimpArgs false
attribute [local go_sem] vx_gtr vx_leq vx_geq
mutual
def stratumref05_value.j0 : Nat → Int → List Int → Int → Bool → Int → Int → ByteArray → Option (Int × Int × ByteArray × Bool)
 | 0, _, _, _, _, _, _, _ => none
 | k + 1, x0, x1, x12, x16, x658000, x658001, x658002 => if x16 = true then ((stratumref02_Take.f k x1).bind fun bt658 => (if bt658.2.2 = 0 then (stratumref05_value.j1 k x0 bt658.1 (bt658.2.1 != (x1.length : Int)) x658000 x658001 x658002) else (stratumref05_value.j1 k x0 bt658.1 true x658000 x658001 x658002))) else (if x12 = 3 then (if (x1.length : Int) = 1 then (if 0 < (x1.length : Int) then ((stratumref04_Valid.f k x658000 (IntKind.u64.wrap (rd x1 0)) x658002).bind fun t665 => (some (x658000, IntKind.u64.wrap (rd x1 0), x658002, t665))) else (none)) else (some (0, 0, (⟨#[]⟩ : ByteArray), false))) else ((stratumref04_Valid.f k x658000 x658001 (strOfNums x1)).bind fun t666 => (some (x658000, x658001, strOfNums x1, t666))))
def stratumref05_value.j1 : Nat → Int → Int → Bool → Int → Int → ByteArray → Option (Int × Int × ByteArray × Bool)
 | 0, _, _, _, _, _, _ => none
 | k + 1, x0, x7, x32, x658000, x658001, x658002 => if x32 = true then (some (0, 0, (⟨#[]⟩ : ByteArray), false)) else (if x0 = 2 then ((stratumref02_Zag.f x7).bind fun t661 => ((stratumref04_Valid.f k x658000 (IntKind.u64.wrap (t661)) x658002).bind fun t662 => (some (x658000, IntKind.u64.wrap (t661), x658002, t662)))) else ((stratumref04_Valid.f k x658000 x7 x658002).bind fun t663 => (some (x658000, x7, x658002, t663))))
end
def stratumref05_value.f (k : Nat) (a0 : Int) (l1 : List Int) : Option (Int × Int × ByteArray × Bool) := if a0 = 1 then (stratumref05_value.j0 k a0 l1 a0 (a0 == 1) a0 0 (⟨#[]⟩ : ByteArray)) else (stratumref05_value.j0 k a0 l1 a0 (a0 == 2) a0 0 (⟨#[]⟩ : ByteArray))
set_option maxHeartbeats 8000000 in
set_option maxRecDepth 100000 in
theorem stratumref05_value.calls (k : Nat) (a0 : Int) (A1 : Option Addr) (c1 : Nat) (l1 : List Int) (r1 : Int) (r2 : Int) (r3 : ByteArray) (r4 : Bool) (w : World) (hr1 : Kd.C (Kd.int .u8) w A1 l1.length l1) (hc1 : l1.length ≤ c1) (h : stratumref05_value.f k a0 l1 = some (r1, r2, r3, r4)) :
  Calls Try.prog 67 #[.int .i64 a0, .slice A1 l1.length c1] w fun e w' => e = .returned (.tuple #[.agg #[.int .i64 r1, .int .u64 r2, .string r3], .bool r4]) ∧ Below w.heap.size w w' := by
 have hu51 := Try.underlying51
 have HR1 := Aside0.mk hr1
 have HC1 := Aside0.mk hc1
 clear hr1 hc1
 have HB := Aside0.mk (Below.refl w.heap.size w)
 have H : (if a0 = 1 then (stratumref05_value.j0 k a0 l1 a0 (a0 == 1) a0 0 (⟨#[]⟩ : ByteArray)) else (stratumref05_value.j0 k a0 l1 a0 (a0 == 2) a0 0 (⟨#[]⟩ : ByteArray))) = some (r1, r2, r3, r4) := h
 clear h
 have HC3 := Aside0.mk H
 clear H
 go_enter Try.func67, Try.ntmps67
 go_upto_if 16 with (first | ((with_reducible refine gate_dst (N := 4) rfl ?_); (try (refine gate_guard (by rfl) ?_; dsimp only)); refine box_event ?hg (N := 4) ?hd (cs := #[.int .i64 0, .int .u64 0, .string (⟨#[]⟩ : ByteArray)]) (t := 51) ?hr ?_; (case hd => rfl); (case hg => rfl); (case hr => first | (go_simp; done) | (go_simp; rfl)); intro gb656 hg w4 hbox hb; have n0_ := Aside0.mk (below_step (by repeat (first | (with_reducible first | exact HB.out | apply below_alloc | apply pw_below_drewN | apply below_drew1) | exact HB.out)) hb); have n1_ := Aside0.mk (hbox); have n2_ := Aside0.mk ((by rw [hg]; exact (below_size (by repeat (first | (with_reducible first | exact HB.out | apply below_alloc | apply pw_below_drewN | apply below_drew1) | exact HB.out))) : w.heap.size ≤ gb656)); have n3_ := Aside0.mk ((by rw [hg]; exact (below_size (by repeat (first | (with_reducible first | exact HB.out | apply below_alloc | apply pw_below_drewN | apply below_drew1) | exact HB.out))) : w.heap.size ≤ gb656)); clear HB; have HB := n0_; have BK656 := n1_; have GW656 := n2_; have GE656 := n3_; clear n0_ n1_ n2_ n3_; clear hb hbox hg) | ((with_reducible refine gate_dst (N := 6) rfl ?_); (try (refine gate_guard (by rfl) ?_; dsimp only)); refine box_event ?hg (N := 6) ?hd (cs := #[.int .i64 0, .int .u64 0, .string (⟨#[]⟩ : ByteArray)]) (t := 51) ?hr ?_; (case hd => rfl); (case hg => rfl); (case hr => first | (go_simp; done) | (go_simp; rfl)); intro gb657 hg w5 hbox hb; have n0_ := Aside0.mk (blk_below (g := gb656) (o := .cells #[.int .i64 0, .int .u64 0, .string (⟨#[]⟩ : ByteArray)] 51 (0, 0)) (by (with_reducible repeat (first | refine blk_drewN ?_ _ | refine blk_drew ?_ | refine blk_alloc ?_ _)); exact BK656.out) hb); have n1_ := Aside0.mk (below_step (by repeat (first | (with_reducible first | exact HB.out | apply below_alloc | apply pw_below_drewN | apply below_drew1 | refine below_set ?_ GE656.out) | exact HB.out)) hb); have n2_ := Aside0.mk (hbox); have n3_ := Aside0.mk ((by rw [hg]; exact (below_size (by repeat (first | (with_reducible first | exact HB.out | apply below_alloc | apply pw_below_drewN | apply below_drew1 | refine below_set ?_ GE656.out) | exact HB.out))) : w.heap.size ≤ gb657)); have n4_ := Aside0.mk ((by rw [hg]; exact (below_size (by repeat (first | (with_reducible first | exact HB.out | apply below_alloc | apply pw_below_drewN | apply below_drew1 | refine below_set ?_ GE656.out) | exact HB.out))) : w.heap.size ≤ gb657)); have n5_ := Aside0.mk ((by rw [hg]; exact Nat.ne_of_lt (blk_lt (g := gb656) (o := .cells #[.int .i64 0, .int .u64 0, .string (⟨#[]⟩ : ByteArray)] 51 (0, 0)) (by (with_reducible repeat (first | refine blk_drewN ?_ _ | refine blk_drew ?_ | refine blk_alloc ?_ _)); exact BK656.out)) : gb656 ≠ gb657)); have n6_ := Aside0.mk ((by rw [hg]; exact Nat.ne_of_gt (blk_lt (g := gb656) (o := .cells #[.int .i64 0, .int .u64 0, .string (⟨#[]⟩ : ByteArray)] 51 (0, 0)) (by (with_reducible repeat (first | refine blk_drewN ?_ _ | refine blk_drew ?_ | refine blk_alloc ?_ _)); exact BK656.out)) : gb657 ≠ gb656)); clear BK656; clear HB; have BK656 := n0_; have HB := n1_; have BK657 := n2_; have GW657 := n3_; have GE657 := n4_; have NB656_657 := n5_; have NB657_656 := n6_; clear n0_ n1_ n2_ n3_ n4_ n5_ n6_; clear hb hbox hg; have hnb6 := NB657_656.out; have hnc6 := NB656_657.out; have hcz7_0 : w5.cell? ⟨gb657, 0, none⟩ = some (.int .i64 0) := (blk_cell BK657.out 0).trans rfl; have hcz7_1 : w5.cell? ⟨gb657, 1, none⟩ = some (.int .u64 0) := (blk_cell BK657.out 1).trans rfl; have hcz7_2 : w5.cell? ⟨gb657, 2, none⟩ = some (.string (⟨#[]⟩ : ByteArray)) := (blk_cell BK657.out 2).trans rfl; have hfz7_0 := blk_frozen BK657.out 0; have hfz7_1 := blk_frozen BK657.out 1; have hfz7_2 := blk_frozen BK657.out 2))
 (try simp only [Act.put, List.setIfInBounds_toArray, List.set_cons_zero, List.set_cons_succ])
 go_cut [16] (fun v16 wc => ∃ (kq : Nat) (x16_2 : Bool), v16 = .bool x16_2 ∧ Aside0 (stratumref05_value.j0 kq a0 l1 a0 x16_2 a0 0 (⟨#[]⟩ : ByteArray) = some (r1, r2, r3, r4)) ∧ Aside0 (kq ≤ k) ∧ Aside0 (wc.heap[gb656]? = some (.cells #[.int .i64 0, .int .u64 0, .string (⟨#[]⟩ : ByteArray)] 51 (0, 0))) ∧ Aside0 (wc.heap[gb657]? = some (.cells #[.int .i64 a0, .int .u64 0, .string (⟨#[]⟩ : ByteArray)] 51 (0, 0))) ∧ Aside0 (Below w.heap.size w wc))
 case first =>
  have H := HC3.out
  clear HC3
  by_cases c8 : a0 = 1
  ·rw [if_pos c8] at H
   have c8b0 : (a0 == 1) = true := beq_iff_eq.mpr c8
   have c8b1 : (a0 != 1) = false := bne_eq_false_iff_eq.mpr c8
   clear c8
   (first | rw [c8b0] | (simp only [i64_w, i32_w]; rw [c8b0]) | skip)
   have H' := Aside0.mk H
   clear H
   go_wp2
   go_meet
   case rel => exact ⟨_, ((a0 == 1)), (by first | rfl | (simp; done) | (simp [*]; done)), H', ⟨by first | omega | exact Nat.le_refl _⟩, ⟨by (with_reducible repeat (first | refine blk_drewN ?_ _ | refine blk_drew ?_ | refine blk_alloc ?_ _)); refine blk_far ?_ NB656_657.out _; (with_reducible repeat (first | refine blk_drewN ?_ _ | refine blk_drew ?_ | refine blk_alloc ?_ _)); refine blk_far ?_ NB656_657.out _; (with_reducible repeat (first | refine blk_drewN ?_ _ | refine blk_drew ?_ | refine blk_alloc ?_ _)); refine blk_far ?_ NB656_657.out _; (with_reducible repeat (first | refine blk_drewN ?_ _ | refine blk_drew ?_ | refine blk_alloc ?_ _)); exact BK656.out⟩, ⟨by (with_reducible repeat (first | refine blk_drewN ?_ _ | refine blk_drew ?_ | refine blk_alloc ?_ _)); refine blk_put (cs := #[.int .i64 a0, .int .u64 0, .string (⟨#[]⟩ : ByteArray)]) ?_ 2 _ rfl; (with_reducible repeat (first | refine blk_drewN ?_ _ | refine blk_drew ?_ | refine blk_alloc ?_ _)); refine blk_put (cs := #[.int .i64 a0, .int .u64 0, .string (⟨#[]⟩ : ByteArray)]) ?_ 1 _ rfl; (with_reducible repeat (first | refine blk_drewN ?_ _ | refine blk_drew ?_ | refine blk_alloc ?_ _)); refine blk_put (cs := #[.int .i64 0, .int .u64 0, .string (⟨#[]⟩ : ByteArray)]) ?_ 0 _ rfl; (with_reducible repeat (first | refine blk_drewN ?_ _ | refine blk_drew ?_ | refine blk_alloc ?_ _)); exact BK657.out⟩, ⟨by repeat (first | (with_reducible first | exact HB.out | apply below_alloc | apply pw_below_drewN | apply below_drew1 | refine below_set ?_ GE656.out | refine below_set ?_ GE657.out) | exact HB.out)⟩⟩
  ·rw [if_neg c8] at H
   have c8b0 : (a0 == 1) = false := beq_eq_false_iff_ne.mpr c8
   have c8b1 : (a0 != 1) = true := bne_iff_ne.mpr c8
   (first | rw [c8b0] | (simp only [i64_w, i32_w]; rw [c8b0]) | skip)
   have H' := Aside0.mk H
   clear H
   go_wp2
   go_meet
   case rel => exact ⟨_, ((a0 == 2)), (by first | rfl | (simp; done) | (simp [*]; done)), H', ⟨by first | omega | exact Nat.le_refl _⟩, ⟨by (with_reducible repeat (first | refine blk_drewN ?_ _ | refine blk_drew ?_ | refine blk_alloc ?_ _)); refine blk_far ?_ NB656_657.out _; (with_reducible repeat (first | refine blk_drewN ?_ _ | refine blk_drew ?_ | refine blk_alloc ?_ _)); refine blk_far ?_ NB656_657.out _; (with_reducible repeat (first | refine blk_drewN ?_ _ | refine blk_drew ?_ | refine blk_alloc ?_ _)); refine blk_far ?_ NB656_657.out _; (with_reducible repeat (first | refine blk_drewN ?_ _ | refine blk_drew ?_ | refine blk_alloc ?_ _)); exact BK656.out⟩, ⟨by (with_reducible repeat (first | refine blk_drewN ?_ _ | refine blk_drew ?_ | refine blk_alloc ?_ _)); refine blk_put (cs := #[.int .i64 a0, .int .u64 0, .string (⟨#[]⟩ : ByteArray)]) ?_ 2 _ rfl; (with_reducible repeat (first | refine blk_drewN ?_ _ | refine blk_drew ?_ | refine blk_alloc ?_ _)); refine blk_put (cs := #[.int .i64 a0, .int .u64 0, .string (⟨#[]⟩ : ByteArray)]) ?_ 1 _ rfl; (with_reducible repeat (first | refine blk_drewN ?_ _ | refine blk_drew ?_ | refine blk_alloc ?_ _)); refine blk_put (cs := #[.int .i64 0, .int .u64 0, .string (⟨#[]⟩ : ByteArray)]) ?_ 0 _ rfl; (with_reducible repeat (first | refine blk_drewN ?_ _ | refine blk_drew ?_ | refine blk_alloc ?_ _)); exact BK657.out⟩, ⟨by repeat (first | (with_reducible first | exact HB.out | apply below_alloc | apply pw_below_drewN | apply below_drew1 | refine below_set ?_ GE656.out | refine below_set ?_ GE657.out) | exact HB.out)⟩⟩
 case rest =>
  clear HC3
  try clear c1
  try clear p2
  try clear c6
  try clear c8
  try clear c8b0
  try clear c8b1
  try clear hcz7_0
  try clear hcz7_1
  try clear hcz7_2
  try clear hfz7_0
  try clear hfz7_1
  try clear hfz7_2
  obtain ⟨kq, x16_2, rfl, HA, HJ2, BK656, BK657, HB⟩ := hcut
  cases kq with
  | zero => exact absurd HA.out (by simp [stratumref05_value.j0])
  | succ kj2 =>
   have H := HA.out
   clear HA
   simp only [stratumref05_value.j0] at H
   by_cases c9 : x16_2 = true
   ·subst c9
    have H1 : ((stratumref02_Take.f kj2 l1).bind fun bt658 => (if bt658.2.2 = 0 then (stratumref05_value.j1 kj2 a0 bt658.1 (bt658.2.1 != (l1.length : Int)) a0 0 (⟨#[]⟩ : ByteArray)) else (stratumref05_value.j1 kj2 a0 bt658.1 true a0 0 (⟨#[]⟩ : ByteArray)))) = some (r1, r2, r3, r4) := by rw [if_pos rfl] at H; exact H
    clear H
    have H := H1
    clear H1
    replace H := Option.bind_eq_some_iff.mp H
    obtain ⟨⟨t658, t659, t660⟩, A100, H⟩ := H
    replace H : (if t660 = 0 then (stratumref05_value.j1 kj2 a0 t658 (t659 != (l1.length : Int)) a0 0 (⟨#[]⟩ : ByteArray)) else (stratumref05_value.j1 kj2 a0 t658 true a0 0 (⟨#[]⟩ : ByteArray))) = some (r1, r2, r3, r4) := H
    have A10 := Aside0.mk A100
    clear A100
    have HC11 := Aside0.mk H
    clear H
    go_upto_region 7 with (first | ((with_reducible refine gate_callee (f := 66) rfl ?_); refine goesL_ (some 21) rfl rfl Try.func66 (by kernel_rfl) rfl #[.slice A1 l1.length c1] rfl (by (try simp only [List.map_toArray, List.map_cons, List.map_nil]); first | done | rfl | (simp only [List.length_drop, List.length_take]; rfl)) ?_; (with_reducible refine (stratumref02_Take.calls kj2 _ _ l1 t658 t659 t660 _ ?side1 ?side2 A10.out).mono ?_); (case side1 => repeat (first | exact (Kd.C_below HR1.out HB.out) | (with_reducible refine Kd.C_alloc ?_ _) | (with_reducible refine Kd.C_drewN ?_ _) | (with_reducible refine Kd.C_drew ?_))); (case side2 => exact HC1.out); rintro e w' ⟨rfl, ⟨nd, rfl⟩⟩; refine ⟨_, rfl, ?_⟩))
    (try simp only [Act.put, List.setIfInBounds_toArray, List.set_cons_zero, List.set_cons_succ])
    go_cut [32] (fun v32 wc => ∃ (kq : Nat) (x32_10 : Bool), v32 = .bool x32_10 ∧ Aside0 (stratumref05_value.j1 kq a0 t658 x32_10 a0 0 (⟨#[]⟩ : ByteArray) = some (r1, r2, r3, r4)) ∧ Aside0 (kq ≤ kj2) ∧ Aside0 (wc.heap[gb656]? = some (.cells #[.int .i64 0, .int .u64 0, .string (⟨#[]⟩ : ByteArray)] 51 (0, 0))) ∧ Aside0 (wc.heap[gb657]? = some (.cells #[.int .i64 a0, .int .u64 0, .string (⟨#[]⟩ : ByteArray)] 51 (0, 0))) ∧ Aside0 (Below w.heap.size w wc))
    case first =>
     have H := HC11.out
     clear HC11
     by_cases c12 : t660 = 0
     ·rw [if_pos c12] at H
      have c12b0 : (t660 == 0) = true := beq_iff_eq.mpr c12
      have c12b1 : (t660 != 0) = false := bne_eq_false_iff_eq.mpr c12
      clear c12
      (first | rw [c12b0] | (simp only [i64_w, i32_w]; rw [c12b0]) | skip)
      have H' := Aside0.mk H
      clear H
      go_wp2
      go_meet
      case rel => exact ⟨_, ((t659 != (l1.length : Int))), (by first | rfl | (simp; done) | (simp [*]; done)), H', ⟨by have := HJ2.out; first | omega | exact Nat.le_refl _⟩, ⟨by (with_reducible repeat (first | refine blk_drewN ?_ _ | refine blk_drew ?_ | refine blk_alloc ?_ _)); exact BK656.out⟩, ⟨by (with_reducible repeat (first | refine blk_drewN ?_ _ | refine blk_drew ?_ | refine blk_alloc ?_ _)); exact BK657.out⟩, ⟨by repeat (first | (with_reducible first | exact HB.out | apply below_alloc | apply pw_below_drewN | apply below_drew1 | refine below_set ?_ GE656.out | refine below_set ?_ GE657.out) | exact HB.out)⟩⟩
     ·rw [if_neg c12] at H
      have c12b0 : (t660 == 0) = false := beq_eq_false_iff_ne.mpr c12
      have c12b1 : (t660 != 0) = true := bne_iff_ne.mpr c12
      (first | rw [c12b0] | (simp only [i64_w, i32_w]; rw [c12b0]) | skip)
      have H' := Aside0.mk H
      clear H
      go_wp2
      go_meet
      case rel => exact ⟨_, (true), (by first | rfl | (simp; done) | (simp [*]; done)), H', ⟨by have := HJ2.out; first | omega | exact Nat.le_refl _⟩, ⟨by (with_reducible repeat (first | refine blk_drewN ?_ _ | refine blk_drew ?_ | refine blk_alloc ?_ _)); exact BK656.out⟩, ⟨by (with_reducible repeat (first | refine blk_drewN ?_ _ | refine blk_drew ?_ | refine blk_alloc ?_ _)); exact BK657.out⟩, ⟨by repeat (first | (with_reducible first | exact HB.out | apply below_alloc | apply pw_below_drewN | apply below_drew1 | refine below_set ?_ GE656.out | refine below_set ?_ GE657.out) | exact HB.out)⟩⟩
    case rest =>
     clear HC11
     try clear c1
     try clear p2
     try clear c6
     try clear c8
     try clear c8b0
     try clear c8b1
     try clear c9
     try clear c12
     try clear c12b0
     try clear c12b1
     try clear hcz7_0
     try clear hcz7_1
     try clear hcz7_2
     try clear hfz7_0
     try clear hfz7_1
     try clear hfz7_2
     try clear p2
     obtain ⟨kq, x32_10, rfl, HA, HJ10, BK656, BK657, HB⟩ := hcut
     cases kq with
     | zero => exact absurd HA.out (by simp [stratumref05_value.j1])
     | succ kj10 =>
      have H := HA.out
      clear HA
      simp only [stratumref05_value.j1] at H
      by_cases c13 : x32_10 = true
      ·subst c13
       have H1 : (some (0, 0, (⟨#[]⟩ : ByteArray), false)) = some (r1, r2, r3, r4) := by rw [if_pos rfl] at H; exact H
       clear H
       have H := H1
       clear H1
       simp only [Option.some.injEq, Prod.mk.injEq] at H
       obtain ⟨rfl, rfl, rfl, rfl⟩ := H
       have hnb14 := NB656_657.out
       have hnc14 := NB657_656.out
       have hcz15_0 : wc.cell? ⟨gb656, 0, none⟩ = some (.int .i64 0) := (blk_cell BK656.out 0).trans rfl
       have hcz15_1 : wc.cell? ⟨gb656, 1, none⟩ = some (.int .u64 0) := (blk_cell BK656.out 1).trans rfl
       have hcz15_2 : wc.cell? ⟨gb656, 2, none⟩ = some (.string (⟨#[]⟩ : ByteArray)) := (blk_cell BK656.out 2).trans rfl
       have hfz15_0 := blk_frozen BK656.out 0
       have hfz15_1 := blk_frozen BK656.out 1
       have hfz15_2 := blk_frozen BK656.out 2
       go_wp2
       refine bodyPost_ret (results_ct rfl _ _ gb656 51 #[.int .i64 0, .int .u64 0, .string (⟨#[]⟩ : ByteArray)] (0, 0) _ rfl (by (with_reducible repeat (first | refine blk_drewN ?_ _ | refine blk_drew ?_ | refine blk_alloc ?_ _)); refine blk_put (cs := #[.int .i64 0, .int .u64 0, .string (⟨#[]⟩ : ByteArray)]) ?_ 2 _ rfl; (with_reducible repeat (first | refine blk_drewN ?_ _ | refine blk_drew ?_ | refine blk_alloc ?_ _)); refine blk_put (cs := #[.int .i64 0, .int .u64 0, .string (⟨#[]⟩ : ByteArray)]) ?_ 1 _ rfl; (with_reducible repeat (first | refine blk_drewN ?_ _ | refine blk_drew ?_ | refine blk_alloc ?_ _)); refine blk_put (cs := #[.int .i64 0, .int .u64 0, .string (⟨#[]⟩ : ByteArray)]) ?_ 0 _ rfl; (with_reducible repeat (first | refine blk_drewN ?_ _ | refine blk_drew ?_ | refine blk_alloc ?_ _)); exact BK656.out) Try.underlying51 rfl (by kernel_rfl)) rfl ?_
       exact ⟨by first | rfl | (simp [errW_none, errW_some] <;> rfl) | (simp [*, errW_none, errW_some] <;> rfl), by repeat (first | (with_reducible first | exact HB.out | apply below_alloc | apply pw_below_drewN | apply below_drew1 | refine below_set ?_ GE656.out | refine below_set ?_ GE657.out) | exact HB.out)⟩
      ·replace c13 := Bool.eq_false_iff.mpr c13
       subst c13
       have H1 : (if a0 = 2 then ((stratumref02_Zag.f t658).bind fun t661 => ((stratumref04_Valid.f kj10 a0 (IntKind.u64.wrap (t661)) (⟨#[]⟩ : ByteArray)).bind fun t662 => (some (a0, IntKind.u64.wrap (t661), (⟨#[]⟩ : ByteArray), t662)))) else ((stratumref04_Valid.f kj10 a0 t658 (⟨#[]⟩ : ByteArray)).bind fun t663 => (some (a0, t658, (⟨#[]⟩ : ByteArray), t663)))) = some (r1, r2, r3, r4) := by rw [if_neg (show ¬ (false = true) by decide)] at H; exact H
       clear H
       have H := H1
       clear H1
       by_cases c16 : a0 = 2
       ·rw [if_pos c16] at H
        have c16b0 : (a0 == 2) = true := beq_iff_eq.mpr c16
        have c16b1 : (a0 != 2) = false := bne_eq_false_iff_eq.mpr c16
        clear c16
        replace H := Option.bind_eq_some_iff.mp H
        obtain ⟨t661, A170, H⟩ := H
        replace H : ((stratumref04_Valid.f kj10 a0 (IntKind.u64.wrap (t661)) (⟨#[]⟩ : ByteArray)).bind fun t662 => (some (a0, IntKind.u64.wrap (t661), (⟨#[]⟩ : ByteArray), t662))) = some (r1, r2, r3, r4) := H
        have A17 := Aside0.mk A170
        clear A170
        replace H := Option.bind_eq_some_iff.mp H
        obtain ⟨t662, A180, H⟩ := H
        replace H : (some (a0, IntKind.u64.wrap (t661), (⟨#[]⟩ : ByteArray), t662)) = some (r1, r2, r3, r4) := H
        have A18 := Aside0.mk A180
        clear A180
        simp only [Option.some.injEq, Prod.mk.injEq] at H
        obtain ⟨rfl, rfl, rfl, rfl⟩ := H
        have hnb19 := NB657_656.out
        have hnc19 := NB656_657.out
        have hcz20_0 : wc.cell? ⟨gb657, 0, none⟩ = some (.int .i64 a0) := (blk_cell BK657.out 0).trans rfl
        have hcz20_1 : wc.cell? ⟨gb657, 1, none⟩ = some (.int .u64 0) := (blk_cell BK657.out 1).trans rfl
        have hcz20_2 : wc.cell? ⟨gb657, 2, none⟩ = some (.string (⟨#[]⟩ : ByteArray)) := (blk_cell BK657.out 2).trans rfl
        have hfz20_0 := blk_frozen BK657.out 0
        have hfz20_1 := blk_frozen BK657.out 1
        have hfz20_2 := blk_frozen BK657.out 2
        try go_wp2_with (first | ((with_reducible refine gate_callee (f := 75) rfl ?_); refine goesL_ (some 39) rfl rfl Try.func75 (by kernel_rfl) rfl #[.int .u64 t658] rfl (by (try simp only [List.map_toArray, List.map_cons, List.map_nil]); first | done | rfl | (simp only [List.length_drop, List.length_take]; rfl)) ?_; (with_reducible refine (stratumref02_Zag.calls t658 t661 _ A17.out).mono ?_); rintro e w' ⟨rfl, ⟨nd, rfl⟩⟩; refine ⟨_, rfl, ?_⟩))
        have n0_ : Aside0 (((wc.setCell ⟨gb657, 1, none⟩ (.int .u64 t658)).setCell ⟨gb657, 1, none⟩ (.int .u64 (IntKind.u64.wrap (t661)))).heap[gb656]? = some (.cells #[.int .i64 0, .int .u64 0, .string (⟨#[]⟩ : ByteArray)] 51 (0, 0))) := ⟨by (with_reducible repeat (first | refine blk_drewN ?_ _ | refine blk_drew ?_ | refine blk_alloc ?_ _)); refine blk_far ?_ NB656_657.out _; (with_reducible repeat (first | refine blk_drewN ?_ _ | refine blk_drew ?_ | refine blk_alloc ?_ _)); refine blk_far ?_ NB656_657.out _; (with_reducible repeat (first | refine blk_drewN ?_ _ | refine blk_drew ?_ | refine blk_alloc ?_ _)); exact BK656.out⟩
        have n1_ : Aside0 (((wc.setCell ⟨gb657, 1, none⟩ (.int .u64 t658)).setCell ⟨gb657, 1, none⟩ (.int .u64 (IntKind.u64.wrap (t661)))).heap[gb657]? = some (.cells #[.int .i64 a0, .int .u64 (IntKind.u64.wrap (t661)), .string (⟨#[]⟩ : ByteArray)] 51 (0, 0))) := ⟨by (with_reducible repeat (first | refine blk_drewN ?_ _ | refine blk_drew ?_ | refine blk_alloc ?_ _)); refine blk_put (cs := #[.int .i64 a0, .int .u64 t658, .string (⟨#[]⟩ : ByteArray)]) ?_ 1 _ rfl; (with_reducible repeat (first | refine blk_drewN ?_ _ | refine blk_drew ?_ | refine blk_alloc ?_ _)); refine blk_put (cs := #[.int .i64 a0, .int .u64 0, .string (⟨#[]⟩ : ByteArray)]) ?_ 1 _ rfl; (with_reducible repeat (first | refine blk_drewN ?_ _ | refine blk_drew ?_ | refine blk_alloc ?_ _)); exact BK657.out⟩
        have n2_ : Aside0 (Below w.heap.size w ((wc.setCell ⟨gb657, 1, none⟩ (.int .u64 t658)).setCell ⟨gb657, 1, none⟩ (.int .u64 (IntKind.u64.wrap (t661))))) := ⟨by repeat (first | (with_reducible first | exact HB.out | apply below_alloc | apply pw_below_drewN | apply below_drew1 | refine below_set ?_ GE656.out | refine below_set ?_ GE657.out) | exact HB.out)⟩
        (try clear BK656)
        (try clear BK657)
        (try clear HB)
        (try simp only [show ∀ (w_ : World) (n_ : Nat) (p_ : Addr) (u_ : Value), (w_.drewN n_).setCell p_ u_ = (w_.setCell p_ u_).drewN n_ from fun _ _ _ _ => rfl])
        generalize ((wc.setCell ⟨gb657, 1, none⟩ (.int .u64 t658)).setCell ⟨gb657, 1, none⟩ (.int .u64 (IntKind.u64.wrap (t661)))) = w21 at n0_ n1_ n2_ ⊢
        have BK656 := n0_
        have BK657 := n1_
        have HB := n2_
        clear n0_ n1_ n2_
        (try (rw [drewN_self w21]; generalize hq_ : World.drewN w21 _ = w21; have n0_ : Aside0 (w21.heap[gb656]? = some (.cells #[.int .i64 0, .int .u64 0, .string (⟨#[]⟩ : ByteArray)] 51 (0, 0))) := ⟨by rw [← hq_]; exact (by (with_reducible repeat (first | refine blk_drewN ?_ _ | refine blk_drew ?_ | refine blk_alloc ?_ _)); exact BK656.out)⟩; have n1_ : Aside0 (w21.heap[gb657]? = some (.cells #[.int .i64 a0, .int .u64 (IntKind.u64.wrap (t661)), .string (⟨#[]⟩ : ByteArray)] 51 (0, 0))) := ⟨by rw [← hq_]; exact (by (with_reducible repeat (first | refine blk_drewN ?_ _ | refine blk_drew ?_ | refine blk_alloc ?_ _)); exact BK657.out)⟩; have n2_ : Aside0 (Below w.heap.size w w21) := ⟨by rw [← hq_]; exact (by repeat (first | (with_reducible first | exact HB.out | apply below_alloc | apply pw_below_drewN | apply below_drew1 | refine below_set ?_ GE656.out | refine below_set ?_ GE657.out) | exact HB.out))⟩; clear BK656 BK657 HB hq_; have BK656 := n0_; have BK657 := n1_; have HB := n2_; clear n0_ n1_ n2_))
        have n0_ := Aside0.mk (blk_drew BK656.out)
        have n1_ := Aside0.mk (blk_drew BK657.out)
        have n2_ := Aside0.mk (below_drew1 HB.out)
        clear BK656
        clear BK657
        clear HB
        have BK656 := n0_
        have BK657 := n1_
        have HB := n2_
        clear n0_ n1_ n2_
        refine start_ (n := 5) (S := fun w' => w'.cell? ⟨gb657, 0, none⟩ = some (.int .i64 a0) ∧ w'.cell? ⟨gb657, 1, none⟩ = some (.int .u64 (IntKind.u64.wrap (t661))) ∧ w'.cell? ⟨gb657, 2, none⟩ = some (.string (⟨#[]⟩ : ByteArray))) (ds := []) #[false, false, false, false, false] (by kernel_rfl) rfl rfl ⟨(blk_cell BK657.out 0).trans rfl, (blk_cell BK657.out 1).trans rfl, (blk_cell BK657.out 2).trans rfl⟩ (fun hHeld => ?_)
        generalize w21.drew = w22 at BK656 BK657 HB hHeld ⊢
        refine take_ (i := 0) (N := some 53) (v := ?_) (a' := ?_) #[true, false, false, false, false] rfl rfl (by kernel_rfl) (fun _ _ _ h => h) (Or.inl ⟨by rfl, ?_⟩) hHeld ?_ ?_
        rotate_left
        ·rintro w' ⟨s0, s1, s2⟩
         go_simp
         with_reducible rfl
        rotate_left
        ·simp only [Act.put, List.setIfInBounds_toArray, List.set_cons_zero, List.set_cons_succ, i64_w, i32_w]
         rfl
        refine take_ (i := 1) (N := some 54) (v := ?_) (a' := ?_) #[true, true, false, false, false] rfl rfl (by kernel_rfl) (fun _ _ _ h => h) (Or.inl ⟨by rfl, ?_⟩) hHeld ?_ ?_
        rotate_left
        ·rintro w' ⟨s0, s1, s2⟩
         go_simp
         with_reducible rfl
        rotate_left
        ·simp only [Act.put, List.setIfInBounds_toArray, List.set_cons_zero, List.set_cons_succ, i64_w, i32_w]
         rfl
        refine one_ (i := 2) (N := some 55) #[true, true, true, false, false] rfl rfl (by kernel_rfl) (by decide) (fun K hK => ?_)
        refine goes_ Try.func52 (by kernel_rfl) rfl #[.agg #[.int .i64 a0, .int .u64 (IntKind.u64.wrap (t661)), .string (⟨#[]⟩ : ByteArray)]] (by rfl) rfl rfl (by (try simp only [List.map_toArray, List.map_cons, List.map_nil]); first | done | rfl | (simp only [List.length_drop, List.length_take]; rfl)) ?_
        with_reducible refine (stratumref04_Valid.calls kj10 a0 (IntKind.u64.wrap (t661)) (⟨#[]⟩ : ByteArray) t662 _ A18.out).mono ?_
        rintro e w23 ⟨rfl, hb⟩
        refine ⟨_, rfl, ?_⟩
        have n0_ := Aside0.mk (blk_below (g := gb656) (o := .cells #[.int .i64 0, .int .u64 0, .string (⟨#[]⟩ : ByteArray)] 51 (0, 0)) (by (with_reducible repeat (first | refine blk_drewN ?_ _ | refine blk_drew ?_ | refine blk_alloc ?_ _)); exact BK656.out) hb)
        have n1_ := Aside0.mk (blk_below (g := gb657) (o := .cells #[.int .i64 a0, .int .u64 (IntKind.u64.wrap (t661)), .string (⟨#[]⟩ : ByteArray)] 51 (0, 0)) (by (with_reducible repeat (first | refine blk_drewN ?_ _ | refine blk_drew ?_ | refine blk_alloc ?_ _)); exact BK657.out) hb)
        have n2_ := Aside0.mk (below_step (by repeat (first | (with_reducible first | exact HB.out | apply below_alloc | apply pw_below_drewN | apply below_drew1 | refine below_set ?_ GE656.out | refine below_set ?_ GE657.out) | exact HB.out)) hb)
        clear BK656
        clear BK657
        clear HB
        have BK656 := n0_
        have BK657 := n1_
        have HB := n2_
        clear n0_ n1_ n2_
        (try clear hb)
        (try clear hb2)
        (try clear hk)
        (try clear hi)
        refine hK.out _ _ ⟨(blk_cell BK657.out 0).trans rfl, (blk_cell BK657.out 1).trans rfl, (blk_cell BK657.out 2).trans rfl⟩ (fun hHeld => ?_)
        clear hK K
        refine norm_ (a' := ?_) ?_ ?_
        rotate_left
        ·show Act.put _ (some 55) _ = _
         simp only [Act.put, List.setIfInBounds_toArray, List.set_cons_zero, List.set_cons_succ, i64_w, i32_w]
         rfl
        refine one_ (i := 3) (N := none) #[true, true, true, true, false] rfl rfl (by kernel_rfl) (by decide) (fun K hK => ?_)
        have hs24 : w23.cell? ⟨gb656, 0, none⟩ = some (.int .i64 0) := (blk_cell BK656.out 0).trans rfl
        have hfs24 := blk_frozen BK656.out 0
        have hns24_1 := NB657_656.out
        have hms24_1 := NB656_657.out
        have hs25 : w23.cell? ⟨gb656, 1, none⟩ = some (.int .u64 0) := (blk_cell BK656.out 1).trans rfl
        have hfs25 := blk_frozen BK656.out 1
        have hns25_1 := NB657_656.out
        have hms25_1 := NB656_657.out
        have hs26 : w23.cell? ⟨gb656, 2, none⟩ = some (.string (⟨#[]⟩ : ByteArray)) := (blk_cell BK656.out 2).trans rfl
        have hfs26 := blk_frozen BK656.out 2
        have hns26_1 := NB657_656.out
        have hms26_1 := NB656_657.out
        refine skip_ (w1 := ?_) (by rfl) rfl ?_ ?_
        rotate_left
        ·go_simp
         rfl
        refine hK.out _ _ ⟨((cell_far (p := ⟨gb656, _, none⟩) NB657_656.out _).trans (((cell_far (p := ⟨gb656, _, none⟩) NB657_656.out _).trans (((cell_far (p := ⟨gb656, _, none⟩) NB657_656.out _).trans (hHeld.1)))))), ((cell_far (p := ⟨gb656, _, none⟩) NB657_656.out _).trans (((cell_far (p := ⟨gb656, _, none⟩) NB657_656.out _).trans (((cell_far (p := ⟨gb656, _, none⟩) NB657_656.out _).trans (hHeld.2.1)))))), ((cell_far (p := ⟨gb656, _, none⟩) NB657_656.out _).trans (((cell_far (p := ⟨gb656, _, none⟩) NB657_656.out _).trans (((cell_far (p := ⟨gb656, _, none⟩) NB657_656.out _).trans (hHeld.2.2))))))⟩ (fun hHeld => ?_)
        clear hK K
        refine pure_ (i := 4) (N := some 5) (v := ?_) (a' := ?_) #[true, true, true, true, true] rfl rfl (by kernel_rfl) (fun _ _ _ h => h) (Or.inl ⟨by rfl, ?_⟩) ?_ ?_
        rotate_left
        ·intro w'
         go_simp
         with_reducible rfl
        rotate_left
        ·simp only [Act.put, List.setIfInBounds_toArray, List.set_cons_zero, List.set_cons_succ, i64_w, i32_w]
         rfl
        refine done_ (by kernel_rfl) ?_
        try go_wp2
        refine bodyPost_ret (results_ct rfl _ _ gb656 51 #[.int .i64 a0, .int .u64 (IntKind.u64.wrap (t661)), .string (⟨#[]⟩ : ByteArray)] (0, 0) _ rfl (by (with_reducible repeat (first | refine blk_drewN ?_ _ | refine blk_drew ?_ | refine blk_alloc ?_ _)); refine blk_put (cs := #[.int .i64 a0, .int .u64 (IntKind.u64.wrap (t661)), .string (⟨#[]⟩ : ByteArray)]) ?_ 2 _ rfl; (with_reducible repeat (first | refine blk_drewN ?_ _ | refine blk_drew ?_ | refine blk_alloc ?_ _)); refine blk_put (cs := #[.int .i64 a0, .int .u64 0, .string (⟨#[]⟩ : ByteArray)]) ?_ 1 _ rfl; (with_reducible repeat (first | refine blk_drewN ?_ _ | refine blk_drew ?_ | refine blk_alloc ?_ _)); refine blk_put (cs := #[.int .i64 0, .int .u64 0, .string (⟨#[]⟩ : ByteArray)]) ?_ 0 _ rfl; (with_reducible repeat (first | refine blk_drewN ?_ _ | refine blk_drew ?_ | refine blk_alloc ?_ _)); exact BK656.out) Try.underlying51 rfl (by kernel_rfl)) rfl ?_
        exact ⟨by first | rfl | (simp [errW_none, errW_some] <;> rfl) | (simp [*, errW_none, errW_some] <;> rfl), by repeat (first | (with_reducible first | exact HB.out | apply below_alloc | apply pw_below_drewN | apply below_drew1 | refine below_set ?_ GE656.out | refine below_set ?_ GE657.out) | exact HB.out)⟩
       ·rw [if_neg c16] at H
        have c16b0 : (a0 == 2) = false := beq_eq_false_iff_ne.mpr c16
        have c16b1 : (a0 != 2) = true := bne_iff_ne.mpr c16
        replace H := Option.bind_eq_some_iff.mp H
        obtain ⟨t663, A270, H⟩ := H
        replace H : (some (a0, t658, (⟨#[]⟩ : ByteArray), t663)) = some (r1, r2, r3, r4) := H
        have A27 := Aside0.mk A270
        clear A270
        simp only [Option.some.injEq, Prod.mk.injEq] at H
        obtain ⟨rfl, rfl, rfl, rfl⟩ := H
        have hnb28 := NB657_656.out
        have hnc28 := NB656_657.out
        have hcz29_0 : wc.cell? ⟨gb657, 0, none⟩ = some (.int .i64 a0) := (blk_cell BK657.out 0).trans rfl
        have hcz29_1 : wc.cell? ⟨gb657, 1, none⟩ = some (.int .u64 0) := (blk_cell BK657.out 1).trans rfl
        have hcz29_2 : wc.cell? ⟨gb657, 2, none⟩ = some (.string (⟨#[]⟩ : ByteArray)) := (blk_cell BK657.out 2).trans rfl
        have hfz29_0 := blk_frozen BK657.out 0
        have hfz29_1 := blk_frozen BK657.out 1
        have hfz29_2 := blk_frozen BK657.out 2
        try go_wp2
        have n0_ : Aside0 ((wc.setCell ⟨gb657, 1, none⟩ (.int .u64 t658)).heap[gb656]? = some (.cells #[.int .i64 0, .int .u64 0, .string (⟨#[]⟩ : ByteArray)] 51 (0, 0))) := ⟨by (with_reducible repeat (first | refine blk_drewN ?_ _ | refine blk_drew ?_ | refine blk_alloc ?_ _)); refine blk_far ?_ NB656_657.out _; (with_reducible repeat (first | refine blk_drewN ?_ _ | refine blk_drew ?_ | refine blk_alloc ?_ _)); exact BK656.out⟩
        have n1_ : Aside0 ((wc.setCell ⟨gb657, 1, none⟩ (.int .u64 t658)).heap[gb657]? = some (.cells #[.int .i64 a0, .int .u64 t658, .string (⟨#[]⟩ : ByteArray)] 51 (0, 0))) := ⟨by (with_reducible repeat (first | refine blk_drewN ?_ _ | refine blk_drew ?_ | refine blk_alloc ?_ _)); refine blk_put (cs := #[.int .i64 a0, .int .u64 0, .string (⟨#[]⟩ : ByteArray)]) ?_ 1 _ rfl; (with_reducible repeat (first | refine blk_drewN ?_ _ | refine blk_drew ?_ | refine blk_alloc ?_ _)); exact BK657.out⟩
        have n2_ : Aside0 (Below w.heap.size w (wc.setCell ⟨gb657, 1, none⟩ (.int .u64 t658))) := ⟨by repeat (first | (with_reducible first | exact HB.out | apply below_alloc | apply pw_below_drewN | apply below_drew1 | refine below_set ?_ GE656.out | refine below_set ?_ GE657.out) | exact HB.out)⟩
        (try clear BK656)
        (try clear BK657)
        (try clear HB)
        (try simp only [show ∀ (w_ : World) (n_ : Nat) (p_ : Addr) (u_ : Value), (w_.drewN n_).setCell p_ u_ = (w_.setCell p_ u_).drewN n_ from fun _ _ _ _ => rfl])
        generalize (wc.setCell ⟨gb657, 1, none⟩ (.int .u64 t658)) = w30 at n0_ n1_ n2_ ⊢
        have BK656 := n0_
        have BK657 := n1_
        have HB := n2_
        clear n0_ n1_ n2_
        have n0_ := Aside0.mk (blk_drew BK656.out)
        have n1_ := Aside0.mk (blk_drew BK657.out)
        have n2_ := Aside0.mk (below_drew1 HB.out)
        clear BK656
        clear BK657
        clear HB
        have BK656 := n0_
        have BK657 := n1_
        have HB := n2_
        clear n0_ n1_ n2_
        refine start_ (n := 5) (S := fun w' => w'.cell? ⟨gb657, 0, none⟩ = some (.int .i64 a0) ∧ w'.cell? ⟨gb657, 1, none⟩ = some (.int .u64 t658) ∧ w'.cell? ⟨gb657, 2, none⟩ = some (.string (⟨#[]⟩ : ByteArray))) (ds := []) #[false, false, false, false, false] (by kernel_rfl) rfl rfl ⟨(blk_cell BK657.out 0).trans rfl, (blk_cell BK657.out 1).trans rfl, (blk_cell BK657.out 2).trans rfl⟩ (fun hHeld => ?_)
        generalize w30.drew = w31 at BK656 BK657 HB hHeld ⊢
        refine take_ (i := 0) (N := some 53) (v := ?_) (a' := ?_) #[true, false, false, false, false] rfl rfl (by kernel_rfl) (fun _ _ _ h => h) (Or.inl ⟨by rfl, ?_⟩) hHeld ?_ ?_
        rotate_left
        ·rintro w' ⟨s0, s1, s2⟩
         go_simp
         with_reducible rfl
        rotate_left
        ·simp only [Act.put, List.setIfInBounds_toArray, List.set_cons_zero, List.set_cons_succ, i64_w, i32_w]
         rfl
        refine take_ (i := 1) (N := some 54) (v := ?_) (a' := ?_) #[true, true, false, false, false] rfl rfl (by kernel_rfl) (fun _ _ _ h => h) (Or.inl ⟨by rfl, ?_⟩) hHeld ?_ ?_
        rotate_left
        ·rintro w' ⟨s0, s1, s2⟩
         go_simp
         with_reducible rfl
        rotate_left
        ·simp only [Act.put, List.setIfInBounds_toArray, List.set_cons_zero, List.set_cons_succ, i64_w, i32_w]
         rfl
        refine one_ (i := 2) (N := some 55) #[true, true, true, false, false] rfl rfl (by kernel_rfl) (by decide) (fun K hK => ?_)
        refine goes_ Try.func52 (by kernel_rfl) rfl #[.agg #[.int .i64 a0, .int .u64 t658, .string (⟨#[]⟩ : ByteArray)]] (by rfl) rfl rfl (by (try simp only [List.map_toArray, List.map_cons, List.map_nil]); first | done | rfl | (simp only [List.length_drop, List.length_take]; rfl)) ?_
        with_reducible refine (stratumref04_Valid.calls kj10 a0 t658 (⟨#[]⟩ : ByteArray) t663 _ A27.out).mono ?_
        rintro e w32 ⟨rfl, hb⟩
        refine ⟨_, rfl, ?_⟩
        have n0_ := Aside0.mk (blk_below (g := gb656) (o := .cells #[.int .i64 0, .int .u64 0, .string (⟨#[]⟩ : ByteArray)] 51 (0, 0)) (by (with_reducible repeat (first | refine blk_drewN ?_ _ | refine blk_drew ?_ | refine blk_alloc ?_ _)); exact BK656.out) hb)
        have n1_ := Aside0.mk (blk_below (g := gb657) (o := .cells #[.int .i64 a0, .int .u64 t658, .string (⟨#[]⟩ : ByteArray)] 51 (0, 0)) (by (with_reducible repeat (first | refine blk_drewN ?_ _ | refine blk_drew ?_ | refine blk_alloc ?_ _)); exact BK657.out) hb)
        have n2_ := Aside0.mk (below_step (by repeat (first | (with_reducible first | exact HB.out | apply below_alloc | apply pw_below_drewN | apply below_drew1 | refine below_set ?_ GE656.out | refine below_set ?_ GE657.out) | exact HB.out)) hb)
        clear BK656
        clear BK657
        clear HB
        have BK656 := n0_
        have BK657 := n1_
        have HB := n2_
        clear n0_ n1_ n2_
        (try clear hb)
        (try clear hb2)
        (try clear hk)
        (try clear hi)
        refine hK.out _ _ ⟨(blk_cell BK657.out 0).trans rfl, (blk_cell BK657.out 1).trans rfl, (blk_cell BK657.out 2).trans rfl⟩ (fun hHeld => ?_)
        clear hK K
        refine norm_ (a' := ?_) ?_ ?_
        rotate_left
        ·show Act.put _ (some 55) _ = _
         simp only [Act.put, List.setIfInBounds_toArray, List.set_cons_zero, List.set_cons_succ, i64_w, i32_w]
         rfl
        refine one_ (i := 3) (N := none) #[true, true, true, true, false] rfl rfl (by kernel_rfl) (by decide) (fun K hK => ?_)
        have hs33 : w32.cell? ⟨gb656, 0, none⟩ = some (.int .i64 0) := (blk_cell BK656.out 0).trans rfl
        have hfs33 := blk_frozen BK656.out 0
        have hns33_1 := NB657_656.out
        have hms33_1 := NB656_657.out
        have hs34 : w32.cell? ⟨gb656, 1, none⟩ = some (.int .u64 0) := (blk_cell BK656.out 1).trans rfl
        have hfs34 := blk_frozen BK656.out 1
        have hns34_1 := NB657_656.out
        have hms34_1 := NB656_657.out
        have hs35 : w32.cell? ⟨gb656, 2, none⟩ = some (.string (⟨#[]⟩ : ByteArray)) := (blk_cell BK656.out 2).trans rfl
        have hfs35 := blk_frozen BK656.out 2
        have hns35_1 := NB657_656.out
        have hms35_1 := NB656_657.out
        refine skip_ (w1 := ?_) (by rfl) rfl ?_ ?_
        rotate_left
        ·go_simp
         rfl
        refine hK.out _ _ ⟨((cell_far (p := ⟨gb656, _, none⟩) NB657_656.out _).trans (((cell_far (p := ⟨gb656, _, none⟩) NB657_656.out _).trans (((cell_far (p := ⟨gb656, _, none⟩) NB657_656.out _).trans (hHeld.1)))))), ((cell_far (p := ⟨gb656, _, none⟩) NB657_656.out _).trans (((cell_far (p := ⟨gb656, _, none⟩) NB657_656.out _).trans (((cell_far (p := ⟨gb656, _, none⟩) NB657_656.out _).trans (hHeld.2.1)))))), ((cell_far (p := ⟨gb656, _, none⟩) NB657_656.out _).trans (((cell_far (p := ⟨gb656, _, none⟩) NB657_656.out _).trans (((cell_far (p := ⟨gb656, _, none⟩) NB657_656.out _).trans (hHeld.2.2))))))⟩ (fun hHeld => ?_)
        clear hK K
        refine pure_ (i := 4) (N := some 5) (v := ?_) (a' := ?_) #[true, true, true, true, true] rfl rfl (by kernel_rfl) (fun _ _ _ h => h) (Or.inl ⟨by rfl, ?_⟩) ?_ ?_
        rotate_left
        ·intro w'
         go_simp
         with_reducible rfl
        rotate_left
        ·simp only [Act.put, List.setIfInBounds_toArray, List.set_cons_zero, List.set_cons_succ, i64_w, i32_w]
         rfl
        refine done_ (by kernel_rfl) ?_
        try go_wp2
        refine bodyPost_ret (results_ct rfl _ _ gb656 51 #[.int .i64 a0, .int .u64 t658, .string (⟨#[]⟩ : ByteArray)] (0, 0) _ rfl (by (with_reducible repeat (first | refine blk_drewN ?_ _ | refine blk_drew ?_ | refine blk_alloc ?_ _)); refine blk_put (cs := #[.int .i64 a0, .int .u64 t658, .string (⟨#[]⟩ : ByteArray)]) ?_ 2 _ rfl; (with_reducible repeat (first | refine blk_drewN ?_ _ | refine blk_drew ?_ | refine blk_alloc ?_ _)); refine blk_put (cs := #[.int .i64 a0, .int .u64 0, .string (⟨#[]⟩ : ByteArray)]) ?_ 1 _ rfl; (with_reducible repeat (first | refine blk_drewN ?_ _ | refine blk_drew ?_ | refine blk_alloc ?_ _)); refine blk_put (cs := #[.int .i64 0, .int .u64 0, .string (⟨#[]⟩ : ByteArray)]) ?_ 0 _ rfl; (with_reducible repeat (first | refine blk_drewN ?_ _ | refine blk_drew ?_ | refine blk_alloc ?_ _)); exact BK656.out) Try.underlying51 rfl (by kernel_rfl)) rfl ?_
        exact ⟨by first | rfl | (simp [errW_none, errW_some] <;> rfl) | (simp [*, errW_none, errW_some] <;> rfl), by repeat (first | (with_reducible first | exact HB.out | apply below_alloc | apply pw_below_drewN | apply below_drew1 | refine below_set ?_ GE656.out | refine below_set ?_ GE657.out) | exact HB.out)⟩
   ·replace c9 := Bool.eq_false_iff.mpr c9
    subst c9
    have H1 : (if a0 = 3 then (if (l1.length : Int) = 1 then (if 0 < (l1.length : Int) then ((stratumref04_Valid.f kj2 a0 (IntKind.u64.wrap (rd l1 0)) (⟨#[]⟩ : ByteArray)).bind fun t665 => (some (a0, IntKind.u64.wrap (rd l1 0), (⟨#[]⟩ : ByteArray), t665))) else (none)) else (some (0, 0, (⟨#[]⟩ : ByteArray), false))) else ((stratumref04_Valid.f kj2 a0 0 (strOfNums l1)).bind fun t666 => (some (a0, 0, strOfNums l1, t666)))) = some (r1, r2, r3, r4) := by rw [if_neg (show ¬ (false = true) by decide)] at H; exact H
    clear H
    have H := H1
    clear H1
    by_cases c36 : a0 = 3
    ·rw [if_pos c36] at H
     have c36b0 : (a0 == 3) = true := beq_iff_eq.mpr c36
     have c36b1 : (a0 != 3) = false := bne_eq_false_iff_eq.mpr c36
     clear c36
     by_cases c37 : (l1.length : Int) = 1
     ·rw [if_pos c37] at H
      have c37b0 : ((l1.length : Int) == 1) = true := beq_iff_eq.mpr c37
      have c37b1 : ((l1.length : Int) != 1) = false := bne_eq_false_iff_eq.mpr c37
      clear c37
      by_cases c38 : 0 < (l1.length : Int)
      ·rw [if_pos c38] at H
       have c38b0 : decide (0 < (l1.length : Int)) = true := decide_eq_true c38
       have c38b1 : decide (0 < l1.length) = true := decide_eq_true (by omega)
       clear c38
       replace H := Option.bind_eq_some_iff.mp H
       obtain ⟨t665, A390, H⟩ := H
       replace H : (some (a0, IntKind.u64.wrap (rd l1 0), (⟨#[]⟩ : ByteArray), t665)) = some (r1, r2, r3, r4) := H
       have A39 := Aside0.mk A390
       clear A390
       simp only [Option.some.injEq, Prod.mk.injEq] at H
       obtain ⟨rfl, rfl, rfl, rfl⟩ := H
       have p664 : 0 ≤ (0 : Int) := (by omega)
       have q664 : 0 < (l1.length : Int) := of_decide_eq_true (by first | (with_reducible assumption) | assumption)
       obtain ⟨ad664, e664, hx664_0⟩ := Kd.at_int HR1.out 0 p664 q664
       cases e664
       have qi664 : (0 < l1.length) = True := eq_true (by omega)
       (try rw [show ((0 : Int)).toNat = 0 from rfl] at hx664_0)
       (try rw [Addr.add_zero'] at hx664_0)
       replace hx664_0 := (HB.out.cell (World.block_lt_of_cell? w _ hx664_0)).trans hx664_0
       replace p664 := eq_true p664
       replace q664 := eq_true q664
       have hnb40 := NB657_656.out
       have hnc40 := NB656_657.out
       have hcz41_0 : wc.cell? ⟨gb657, 0, none⟩ = some (.int .i64 a0) := (blk_cell BK657.out 0).trans rfl
       have hcz41_1 : wc.cell? ⟨gb657, 1, none⟩ = some (.int .u64 0) := (blk_cell BK657.out 1).trans rfl
       have hcz41_2 : wc.cell? ⟨gb657, 2, none⟩ = some (.string (⟨#[]⟩ : ByteArray)) := (blk_cell BK657.out 2).trans rfl
       have hfz41_0 := blk_frozen BK657.out 0
       have hfz41_1 := blk_frozen BK657.out 1
       have hfz41_2 := blk_frozen BK657.out 2
       try go_wp2
       have n0_ : Aside0 ((wc.setCell ⟨gb657, 1, none⟩ (.int .u64 (IntKind.u64.wrap (rd l1 0)))).heap[gb656]? = some (.cells #[.int .i64 0, .int .u64 0, .string (⟨#[]⟩ : ByteArray)] 51 (0, 0))) := ⟨by (with_reducible repeat (first | refine blk_drewN ?_ _ | refine blk_drew ?_ | refine blk_alloc ?_ _)); refine blk_far ?_ NB656_657.out _; (with_reducible repeat (first | refine blk_drewN ?_ _ | refine blk_drew ?_ | refine blk_alloc ?_ _)); exact BK656.out⟩
       have n1_ : Aside0 ((wc.setCell ⟨gb657, 1, none⟩ (.int .u64 (IntKind.u64.wrap (rd l1 0)))).heap[gb657]? = some (.cells #[.int .i64 a0, .int .u64 (IntKind.u64.wrap (rd l1 0)), .string (⟨#[]⟩ : ByteArray)] 51 (0, 0))) := ⟨by (with_reducible repeat (first | refine blk_drewN ?_ _ | refine blk_drew ?_ | refine blk_alloc ?_ _)); refine blk_put (cs := #[.int .i64 a0, .int .u64 0, .string (⟨#[]⟩ : ByteArray)]) ?_ 1 _ rfl; (with_reducible repeat (first | refine blk_drewN ?_ _ | refine blk_drew ?_ | refine blk_alloc ?_ _)); exact BK657.out⟩
       have n2_ : Aside0 (Below w.heap.size w (wc.setCell ⟨gb657, 1, none⟩ (.int .u64 (IntKind.u64.wrap (rd l1 0))))) := ⟨by repeat (first | (with_reducible first | exact HB.out | apply below_alloc | apply pw_below_drewN | apply below_drew1 | refine below_set ?_ GE656.out | refine below_set ?_ GE657.out) | exact HB.out)⟩
       (try clear BK656)
       (try clear BK657)
       (try clear HB)
       (try simp only [show ∀ (w_ : World) (n_ : Nat) (p_ : Addr) (u_ : Value), (w_.drewN n_).setCell p_ u_ = (w_.setCell p_ u_).drewN n_ from fun _ _ _ _ => rfl])
       generalize (wc.setCell ⟨gb657, 1, none⟩ (.int .u64 (IntKind.u64.wrap (rd l1 0)))) = w42 at n0_ n1_ n2_ ⊢
       have BK656 := n0_
       have BK657 := n1_
       have HB := n2_
       clear n0_ n1_ n2_
       have n0_ := Aside0.mk (blk_drew BK656.out)
       have n1_ := Aside0.mk (blk_drew BK657.out)
       have n2_ := Aside0.mk (below_drew1 HB.out)
       clear BK656
       clear BK657
       clear HB
       have BK656 := n0_
       have BK657 := n1_
       have HB := n2_
       clear n0_ n1_ n2_
       refine start_ (n := 5) (S := fun w' => w'.cell? ⟨gb657, 0, none⟩ = some (.int .i64 a0) ∧ w'.cell? ⟨gb657, 1, none⟩ = some (.int .u64 (IntKind.u64.wrap (rd l1 0))) ∧ w'.cell? ⟨gb657, 2, none⟩ = some (.string (⟨#[]⟩ : ByteArray))) (ds := []) #[false, false, false, false, false] (by kernel_rfl) rfl rfl ⟨(blk_cell BK657.out 0).trans rfl, (blk_cell BK657.out 1).trans rfl, (blk_cell BK657.out 2).trans rfl⟩ (fun hHeld => ?_)
       generalize w42.drew = w43 at BK656 BK657 HB hHeld ⊢
       refine take_ (i := 0) (N := some 53) (v := ?_) (a' := ?_) #[true, false, false, false, false] rfl rfl (by kernel_rfl) (fun _ _ _ h => h) (Or.inl ⟨by rfl, ?_⟩) hHeld ?_ ?_
       rotate_left
       ·rintro w' ⟨s0, s1, s2⟩
        go_simp
        with_reducible rfl
       rotate_left
       ·simp only [Act.put, List.setIfInBounds_toArray, List.set_cons_zero, List.set_cons_succ, i64_w, i32_w]
        rfl
       refine take_ (i := 1) (N := some 54) (v := ?_) (a' := ?_) #[true, true, false, false, false] rfl rfl (by kernel_rfl) (fun _ _ _ h => h) (Or.inl ⟨by rfl, ?_⟩) hHeld ?_ ?_
       rotate_left
       ·rintro w' ⟨s0, s1, s2⟩
        go_simp
        with_reducible rfl
       rotate_left
       ·simp only [Act.put, List.setIfInBounds_toArray, List.set_cons_zero, List.set_cons_succ, i64_w, i32_w]
        rfl
       refine one_ (i := 2) (N := some 55) #[true, true, true, false, false] rfl rfl (by kernel_rfl) (by decide) (fun K hK => ?_)
       refine goes_ Try.func52 (by kernel_rfl) rfl #[.agg #[.int .i64 a0, .int .u64 (IntKind.u64.wrap (rd l1 0)), .string (⟨#[]⟩ : ByteArray)]] (by rfl) rfl rfl (by (try simp only [List.map_toArray, List.map_cons, List.map_nil]); first | done | rfl | (simp only [List.length_drop, List.length_take]; rfl)) ?_
       with_reducible refine (stratumref04_Valid.calls kj2 a0 (IntKind.u64.wrap (rd l1 0)) (⟨#[]⟩ : ByteArray) t665 _ A39.out).mono ?_
       rintro e w44 ⟨rfl, hb⟩
       refine ⟨_, rfl, ?_⟩
       have n0_ := Aside0.mk (blk_below (g := gb656) (o := .cells #[.int .i64 0, .int .u64 0, .string (⟨#[]⟩ : ByteArray)] 51 (0, 0)) (by (with_reducible repeat (first | refine blk_drewN ?_ _ | refine blk_drew ?_ | refine blk_alloc ?_ _)); exact BK656.out) hb)
       have n1_ := Aside0.mk (blk_below (g := gb657) (o := .cells #[.int .i64 a0, .int .u64 (IntKind.u64.wrap (rd l1 0)), .string (⟨#[]⟩ : ByteArray)] 51 (0, 0)) (by (with_reducible repeat (first | refine blk_drewN ?_ _ | refine blk_drew ?_ | refine blk_alloc ?_ _)); exact BK657.out) hb)
       have n2_ := Aside0.mk (below_step (by repeat (first | (with_reducible first | exact HB.out | apply below_alloc | apply pw_below_drewN | apply below_drew1 | refine below_set ?_ GE656.out | refine below_set ?_ GE657.out) | exact HB.out)) hb)
       clear BK656
       clear BK657
       clear HB
       have BK656 := n0_
       have BK657 := n1_
       have HB := n2_
       clear n0_ n1_ n2_
       (try clear hb)
       (try clear hb2)
       (try clear hk)
       (try clear hi)
       refine hK.out _ _ ⟨(blk_cell BK657.out 0).trans rfl, (blk_cell BK657.out 1).trans rfl, (blk_cell BK657.out 2).trans rfl⟩ (fun hHeld => ?_)
       clear hK K
       refine norm_ (a' := ?_) ?_ ?_
       rotate_left
       ·show Act.put _ (some 55) _ = _
        simp only [Act.put, List.setIfInBounds_toArray, List.set_cons_zero, List.set_cons_succ, i64_w, i32_w]
        rfl
       refine one_ (i := 3) (N := none) #[true, true, true, true, false] rfl rfl (by kernel_rfl) (by decide) (fun K hK => ?_)
       have hs45 : w44.cell? ⟨gb656, 0, none⟩ = some (.int .i64 0) := (blk_cell BK656.out 0).trans rfl
       have hfs45 := blk_frozen BK656.out 0
       have hns45_1 := NB657_656.out
       have hms45_1 := NB656_657.out
       have hs46 : w44.cell? ⟨gb656, 1, none⟩ = some (.int .u64 0) := (blk_cell BK656.out 1).trans rfl
       have hfs46 := blk_frozen BK656.out 1
       have hns46_1 := NB657_656.out
       have hms46_1 := NB656_657.out
       have hs47 : w44.cell? ⟨gb656, 2, none⟩ = some (.string (⟨#[]⟩ : ByteArray)) := (blk_cell BK656.out 2).trans rfl
       have hfs47 := blk_frozen BK656.out 2
       have hns47_1 := NB657_656.out
       have hms47_1 := NB656_657.out
       refine skip_ (w1 := ?_) (by rfl) rfl ?_ ?_
       rotate_left
       ·go_simp
        rfl
       refine hK.out _ _ ⟨((cell_far (p := ⟨gb656, _, none⟩) NB657_656.out _).trans (((cell_far (p := ⟨gb656, _, none⟩) NB657_656.out _).trans (((cell_far (p := ⟨gb656, _, none⟩) NB657_656.out _).trans (hHeld.1)))))), ((cell_far (p := ⟨gb656, _, none⟩) NB657_656.out _).trans (((cell_far (p := ⟨gb656, _, none⟩) NB657_656.out _).trans (((cell_far (p := ⟨gb656, _, none⟩) NB657_656.out _).trans (hHeld.2.1)))))), ((cell_far (p := ⟨gb656, _, none⟩) NB657_656.out _).trans (((cell_far (p := ⟨gb656, _, none⟩) NB657_656.out _).trans (((cell_far (p := ⟨gb656, _, none⟩) NB657_656.out _).trans (hHeld.2.2))))))⟩ (fun hHeld => ?_)
       clear hK K
       refine pure_ (i := 4) (N := some 5) (v := ?_) (a' := ?_) #[true, true, true, true, true] rfl rfl (by kernel_rfl) (fun _ _ _ h => h) (Or.inl ⟨by rfl, ?_⟩) ?_ ?_
       rotate_left
       ·intro w'
        go_simp
        with_reducible rfl
       rotate_left
       ·simp only [Act.put, List.setIfInBounds_toArray, List.set_cons_zero, List.set_cons_succ, i64_w, i32_w]
        rfl
       refine done_ (by kernel_rfl) ?_
       try go_wp2
       refine bodyPost_ret (results_ct rfl _ _ gb656 51 #[.int .i64 a0, .int .u64 (IntKind.u64.wrap (rd l1 0)), .string (⟨#[]⟩ : ByteArray)] (0, 0) _ rfl (by (with_reducible repeat (first | refine blk_drewN ?_ _ | refine blk_drew ?_ | refine blk_alloc ?_ _)); refine blk_put (cs := #[.int .i64 a0, .int .u64 (IntKind.u64.wrap (rd l1 0)), .string (⟨#[]⟩ : ByteArray)]) ?_ 2 _ rfl; (with_reducible repeat (first | refine blk_drewN ?_ _ | refine blk_drew ?_ | refine blk_alloc ?_ _)); refine blk_put (cs := #[.int .i64 a0, .int .u64 0, .string (⟨#[]⟩ : ByteArray)]) ?_ 1 _ rfl; (with_reducible repeat (first | refine blk_drewN ?_ _ | refine blk_drew ?_ | refine blk_alloc ?_ _)); refine blk_put (cs := #[.int .i64 0, .int .u64 0, .string (⟨#[]⟩ : ByteArray)]) ?_ 0 _ rfl; (with_reducible repeat (first | refine blk_drewN ?_ _ | refine blk_drew ?_ | refine blk_alloc ?_ _)); exact BK656.out) Try.underlying51 rfl (by kernel_rfl)) rfl ?_
       exact ⟨by first | rfl | (simp [errW_none, errW_some] <;> rfl) | (simp [*, errW_none, errW_some] <;> rfl), by repeat (first | (with_reducible first | exact HB.out | apply below_alloc | apply pw_below_drewN | apply below_drew1 | refine below_set ?_ GE656.out | refine below_set ?_ GE657.out) | exact HB.out)⟩
      ·rw [if_neg c38] at H
       exact absurd H (by simp)
     ·rw [if_neg c37] at H
      have c37b0 : ((l1.length : Int) == 1) = false := beq_eq_false_iff_ne.mpr c37
      have c37b1 : ((l1.length : Int) != 1) = true := bne_iff_ne.mpr c37
      simp only [Option.some.injEq, Prod.mk.injEq] at H
      obtain ⟨rfl, rfl, rfl, rfl⟩ := H
      have hnb48 := NB656_657.out
      have hnc48 := NB657_656.out
      have hcz49_0 : wc.cell? ⟨gb656, 0, none⟩ = some (.int .i64 0) := (blk_cell BK656.out 0).trans rfl
      have hcz49_1 : wc.cell? ⟨gb656, 1, none⟩ = some (.int .u64 0) := (blk_cell BK656.out 1).trans rfl
      have hcz49_2 : wc.cell? ⟨gb656, 2, none⟩ = some (.string (⟨#[]⟩ : ByteArray)) := (blk_cell BK656.out 2).trans rfl
      have hfz49_0 := blk_frozen BK656.out 0
      have hfz49_1 := blk_frozen BK656.out 1
      have hfz49_2 := blk_frozen BK656.out 2
      go_wp2
      refine bodyPost_ret (results_ct rfl _ _ gb656 51 #[.int .i64 0, .int .u64 0, .string (⟨#[]⟩ : ByteArray)] (0, 0) _ rfl (by (with_reducible repeat (first | refine blk_drewN ?_ _ | refine blk_drew ?_ | refine blk_alloc ?_ _)); refine blk_put (cs := #[.int .i64 0, .int .u64 0, .string (⟨#[]⟩ : ByteArray)]) ?_ 2 _ rfl; (with_reducible repeat (first | refine blk_drewN ?_ _ | refine blk_drew ?_ | refine blk_alloc ?_ _)); refine blk_put (cs := #[.int .i64 0, .int .u64 0, .string (⟨#[]⟩ : ByteArray)]) ?_ 1 _ rfl; (with_reducible repeat (first | refine blk_drewN ?_ _ | refine blk_drew ?_ | refine blk_alloc ?_ _)); refine blk_put (cs := #[.int .i64 0, .int .u64 0, .string (⟨#[]⟩ : ByteArray)]) ?_ 0 _ rfl; (with_reducible repeat (first | refine blk_drewN ?_ _ | refine blk_drew ?_ | refine blk_alloc ?_ _)); exact BK656.out) Try.underlying51 rfl (by kernel_rfl)) rfl ?_
      exact ⟨by first | rfl | (simp [errW_none, errW_some] <;> rfl) | (simp [*, errW_none, errW_some] <;> rfl), by repeat (first | (with_reducible first | exact HB.out | apply below_alloc | apply pw_below_drewN | apply below_drew1 | refine below_set ?_ GE656.out | refine below_set ?_ GE657.out) | exact HB.out)⟩
    ·rw [if_neg c36] at H
     have c36b0 : (a0 == 3) = false := beq_eq_false_iff_ne.mpr c36
     have c36b1 : (a0 != 3) = true := bne_iff_ne.mpr c36
     replace H := Option.bind_eq_some_iff.mp H
     obtain ⟨t666, A500, H⟩ := H
     replace H : (some (a0, 0, strOfNums l1, t666)) = some (r1, r2, r3, r4) := H
     have A50 := Aside0.mk A500
     clear A500
     simp only [Option.some.injEq, Prod.mk.injEq] at H
     obtain ⟨rfl, rfl, rfl, rfl⟩ := H
     have hcv51 := Kd.C_string (P := Try.prog) (A := A1) (c := c1) Try.underlying63 Try.underlying5 Try.underlying9 (Kd.C_below HR1.out HB.out)
     have hnb52 := NB657_656.out
     have hnc52 := NB656_657.out
     have hcz53_0 : wc.cell? ⟨gb657, 0, none⟩ = some (.int .i64 a0) := (blk_cell BK657.out 0).trans rfl
     have hcz53_1 : wc.cell? ⟨gb657, 1, none⟩ = some (.int .u64 0) := (blk_cell BK657.out 1).trans rfl
     have hcz53_2 : wc.cell? ⟨gb657, 2, none⟩ = some (.string (⟨#[]⟩ : ByteArray)) := (blk_cell BK657.out 2).trans rfl
     have hfz53_0 := blk_frozen BK657.out 0
     have hfz53_1 := blk_frozen BK657.out 1
     have hfz53_2 := blk_frozen BK657.out 2
     try go_wp2
     have n0_ : Aside0 ((wc.setCell ⟨gb657, 2, none⟩ (.string (strOfNums l1))).heap[gb656]? = some (.cells #[.int .i64 0, .int .u64 0, .string (⟨#[]⟩ : ByteArray)] 51 (0, 0))) := ⟨by (with_reducible repeat (first | refine blk_drewN ?_ _ | refine blk_drew ?_ | refine blk_alloc ?_ _)); refine blk_far ?_ NB656_657.out _; (with_reducible repeat (first | refine blk_drewN ?_ _ | refine blk_drew ?_ | refine blk_alloc ?_ _)); exact BK656.out⟩
     have n1_ : Aside0 ((wc.setCell ⟨gb657, 2, none⟩ (.string (strOfNums l1))).heap[gb657]? = some (.cells #[.int .i64 a0, .int .u64 0, .string (strOfNums l1)] 51 (0, 0))) := ⟨by (with_reducible repeat (first | refine blk_drewN ?_ _ | refine blk_drew ?_ | refine blk_alloc ?_ _)); refine blk_put (cs := #[.int .i64 a0, .int .u64 0, .string (⟨#[]⟩ : ByteArray)]) ?_ 2 _ rfl; (with_reducible repeat (first | refine blk_drewN ?_ _ | refine blk_drew ?_ | refine blk_alloc ?_ _)); exact BK657.out⟩
     have n2_ : Aside0 (Below w.heap.size w (wc.setCell ⟨gb657, 2, none⟩ (.string (strOfNums l1)))) := ⟨by repeat (first | (with_reducible first | exact HB.out | apply below_alloc | apply pw_below_drewN | apply below_drew1 | refine below_set ?_ GE656.out | refine below_set ?_ GE657.out) | exact HB.out)⟩
     (try clear BK656)
     (try clear BK657)
     (try clear HB)
     (try simp only [show ∀ (w_ : World) (n_ : Nat) (p_ : Addr) (u_ : Value), (w_.drewN n_).setCell p_ u_ = (w_.setCell p_ u_).drewN n_ from fun _ _ _ _ => rfl])
     generalize (wc.setCell ⟨gb657, 2, none⟩ (.string (strOfNums l1))) = w54 at n0_ n1_ n2_ ⊢
     have BK656 := n0_
     have BK657 := n1_
     have HB := n2_
     clear n0_ n1_ n2_
     have n0_ := Aside0.mk (blk_drew BK656.out)
     have n1_ := Aside0.mk (blk_drew BK657.out)
     have n2_ := Aside0.mk (below_drew1 HB.out)
     clear BK656
     clear BK657
     clear HB
     have BK656 := n0_
     have BK657 := n1_
     have HB := n2_
     clear n0_ n1_ n2_
     refine start_ (n := 5) (S := fun w' => w'.cell? ⟨gb657, 0, none⟩ = some (.int .i64 a0) ∧ w'.cell? ⟨gb657, 1, none⟩ = some (.int .u64 0) ∧ w'.cell? ⟨gb657, 2, none⟩ = some (.string (strOfNums l1))) (ds := []) #[false, false, false, false, false] (by kernel_rfl) rfl rfl ⟨(blk_cell BK657.out 0).trans rfl, (blk_cell BK657.out 1).trans rfl, (blk_cell BK657.out 2).trans rfl⟩ (fun hHeld => ?_)
     generalize w54.drew = w55 at BK656 BK657 HB hHeld ⊢
     refine take_ (i := 0) (N := some 53) (v := ?_) (a' := ?_) #[true, false, false, false, false] rfl rfl (by kernel_rfl) (fun _ _ _ h => h) (Or.inl ⟨by rfl, ?_⟩) hHeld ?_ ?_
     rotate_left
     ·rintro w' ⟨s0, s1, s2⟩
      go_simp
      with_reducible rfl
     rotate_left
     ·simp only [Act.put, List.setIfInBounds_toArray, List.set_cons_zero, List.set_cons_succ, i64_w, i32_w]
      rfl
     refine take_ (i := 1) (N := some 54) (v := ?_) (a' := ?_) #[true, true, false, false, false] rfl rfl (by kernel_rfl) (fun _ _ _ h => h) (Or.inl ⟨by rfl, ?_⟩) hHeld ?_ ?_
     rotate_left
     ·rintro w' ⟨s0, s1, s2⟩
      go_simp
      with_reducible rfl
     rotate_left
     ·simp only [Act.put, List.setIfInBounds_toArray, List.set_cons_zero, List.set_cons_succ, i64_w, i32_w]
      rfl
     refine one_ (i := 2) (N := some 55) #[true, true, true, false, false] rfl rfl (by kernel_rfl) (by decide) (fun K hK => ?_)
     refine goes_ Try.func52 (by kernel_rfl) rfl #[.agg #[.int .i64 a0, .int .u64 0, .string (strOfNums l1)]] (by rfl) rfl rfl (by (try simp only [List.map_toArray, List.map_cons, List.map_nil]); first | done | rfl | (simp only [List.length_drop, List.length_take]; rfl)) ?_
     with_reducible refine (stratumref04_Valid.calls kj2 a0 0 (strOfNums l1) t666 _ A50.out).mono ?_
     rintro e w56 ⟨rfl, hb⟩
     refine ⟨_, rfl, ?_⟩
     have n0_ := Aside0.mk (blk_below (g := gb656) (o := .cells #[.int .i64 0, .int .u64 0, .string (⟨#[]⟩ : ByteArray)] 51 (0, 0)) (by (with_reducible repeat (first | refine blk_drewN ?_ _ | refine blk_drew ?_ | refine blk_alloc ?_ _)); exact BK656.out) hb)
     have n1_ := Aside0.mk (blk_below (g := gb657) (o := .cells #[.int .i64 a0, .int .u64 0, .string (strOfNums l1)] 51 (0, 0)) (by (with_reducible repeat (first | refine blk_drewN ?_ _ | refine blk_drew ?_ | refine blk_alloc ?_ _)); exact BK657.out) hb)
     have n2_ := Aside0.mk (below_step (by repeat (first | (with_reducible first | exact HB.out | apply below_alloc | apply pw_below_drewN | apply below_drew1 | refine below_set ?_ GE656.out | refine below_set ?_ GE657.out) | exact HB.out)) hb)
     clear BK656
     clear BK657
     clear HB
     have BK656 := n0_
     have BK657 := n1_
     have HB := n2_
     clear n0_ n1_ n2_
     (try clear hb)
     (try clear hb2)
     (try clear hk)
     (try clear hi)
     refine hK.out _ _ ⟨(blk_cell BK657.out 0).trans rfl, (blk_cell BK657.out 1).trans rfl, (blk_cell BK657.out 2).trans rfl⟩ (fun hHeld => ?_)
     clear hK K
     refine norm_ (a' := ?_) ?_ ?_
     rotate_left
     ·show Act.put _ (some 55) _ = _
      simp only [Act.put, List.setIfInBounds_toArray, List.set_cons_zero, List.set_cons_succ, i64_w, i32_w]
      rfl
     refine one_ (i := 3) (N := none) #[true, true, true, true, false] rfl rfl (by kernel_rfl) (by decide) (fun K hK => ?_)
     have hs57 : w56.cell? ⟨gb656, 0, none⟩ = some (.int .i64 0) := (blk_cell BK656.out 0).trans rfl
     have hfs57 := blk_frozen BK656.out 0
     have hns57_1 := NB657_656.out
     have hms57_1 := NB656_657.out
     have hs58 : w56.cell? ⟨gb656, 1, none⟩ = some (.int .u64 0) := (blk_cell BK656.out 1).trans rfl
     have hfs58 := blk_frozen BK656.out 1
     have hns58_1 := NB657_656.out
     have hms58_1 := NB656_657.out
     have hs59 : w56.cell? ⟨gb656, 2, none⟩ = some (.string (⟨#[]⟩ : ByteArray)) := (blk_cell BK656.out 2).trans rfl
     have hfs59 := blk_frozen BK656.out 2
     have hns59_1 := NB657_656.out
     have hms59_1 := NB656_657.out
     refine skip_ (w1 := ?_) (by rfl) rfl ?_ ?_
     rotate_left
     ·go_simp
      rfl
     refine hK.out _ _ ⟨((cell_far (p := ⟨gb656, _, none⟩) NB657_656.out _).trans (((cell_far (p := ⟨gb656, _, none⟩) NB657_656.out _).trans (((cell_far (p := ⟨gb656, _, none⟩) NB657_656.out _).trans (hHeld.1)))))), ((cell_far (p := ⟨gb656, _, none⟩) NB657_656.out _).trans (((cell_far (p := ⟨gb656, _, none⟩) NB657_656.out _).trans (((cell_far (p := ⟨gb656, _, none⟩) NB657_656.out _).trans (hHeld.2.1)))))), ((cell_far (p := ⟨gb656, _, none⟩) NB657_656.out _).trans (((cell_far (p := ⟨gb656, _, none⟩) NB657_656.out _).trans (((cell_far (p := ⟨gb656, _, none⟩) NB657_656.out _).trans (hHeld.2.2))))))⟩ (fun hHeld => ?_)
     clear hK K
     refine pure_ (i := 4) (N := some 5) (v := ?_) (a' := ?_) #[true, true, true, true, true] rfl rfl (by kernel_rfl) (fun _ _ _ h => h) (Or.inl ⟨by rfl, ?_⟩) ?_ ?_
     rotate_left
     ·intro w'
      go_simp
      with_reducible rfl
     rotate_left
     ·simp only [Act.put, List.setIfInBounds_toArray, List.set_cons_zero, List.set_cons_succ, i64_w, i32_w]
      rfl
     refine done_ (by kernel_rfl) ?_
     try go_wp2
     refine bodyPost_ret (results_ct rfl _ _ gb656 51 #[.int .i64 a0, .int .u64 0, .string (strOfNums l1)] (0, 0) _ rfl (by (with_reducible repeat (first | refine blk_drewN ?_ _ | refine blk_drew ?_ | refine blk_alloc ?_ _)); refine blk_put (cs := #[.int .i64 a0, .int .u64 0, .string (⟨#[]⟩ : ByteArray)]) ?_ 2 _ rfl; (with_reducible repeat (first | refine blk_drewN ?_ _ | refine blk_drew ?_ | refine blk_alloc ?_ _)); refine blk_put (cs := #[.int .i64 a0, .int .u64 0, .string (⟨#[]⟩ : ByteArray)]) ?_ 1 _ rfl; (with_reducible repeat (first | refine blk_drewN ?_ _ | refine blk_drew ?_ | refine blk_alloc ?_ _)); refine blk_put (cs := #[.int .i64 0, .int .u64 0, .string (⟨#[]⟩ : ByteArray)]) ?_ 0 _ rfl; (with_reducible repeat (first | refine blk_drewN ?_ _ | refine blk_drew ?_ | refine blk_alloc ?_ _)); exact BK656.out) Try.underlying51 rfl (by kernel_rfl)) rfl ?_
     exact ⟨by first | rfl | (simp [errW_none, errW_some] <;> rfl) | (simp [*, errW_none, errW_some] <;> rfl), by repeat (first | (with_reducible first | exact HB.out | apply below_alloc | apply pw_below_drewN | apply below_drew1 | refine below_set ?_ GE656.out | refine below_set ?_ GE657.out) | exact HB.out)⟩
end Go.Proofs.Yteejpfemaedmkaa.X
