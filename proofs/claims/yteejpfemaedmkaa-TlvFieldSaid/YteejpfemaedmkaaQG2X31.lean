-- Written by wip/printx.py: the kit's printer with functions proved by hand. Not trusted: Lean checks it.
import Derived.Test.YteejpfemaedmkaaQG2X0
import Derived.Test.YteejpfemaedmkaaQG2X5
import Derived.Test.YteejpfemaedmkaaQG2X22
import Derived.Test.YteejpfemaedmkaaQG2X25
namespace Go.Proofs.Yteejpfemaedmkaa.X
open Go.RowKit Go.Proofs.YteejpfemaedmkaaW.PrintWords Go.Proofs.YteejpfemaedmkaaW.PrintLast Go.Proofs.YteejpfemaedmkaaW.PrintMore
attribute [local go_sem] max2_int min2_int max_two min_two max_three min_three max_four min_four
set_option linter.unusedVariables false
set_option linter.unusedSimpArgs false
attribute [local go_sem] vx_gtr vx_leq vx_geq
mutual
def stratumlaw05_TlvField.j0 : Nat → Bool → Int → Int → Int → ByteArray → Option (Bool)
 | 0, _, _, _, _, _ => none
 | k + 1, x3, x744000, x744001, x744002, x744003 => (tlv_Encode.f k (([(⟨x744000, (⟨x744001, x744002, x744003⟩ : S51)⟩ : S53)] : List (S53)))).bind fun bt749 => (if x3 = true then ((kind_Uint.f).bind fun t753 => (if x744001 = t753 then ((varint_Put.f k ([] : List Int) x744002).bind fun t754 => (stratumlaw05_TlvField.j1 k bt749.1 bt749.2 t754 x744000 x744001 x744002 x744003)) else ((kind_Int.f).bind fun t757 => (if x744001 = t757 then ((varint_Zig.f (wrap64 (x744002))).bind fun t758 => ((varint_Put.f k ([] : List Int) t758).bind fun t759 => (stratumlaw05_TlvField.j1 k bt749.1 bt749.2 t759 x744000 x744001 x744002 x744003))) else ((kind_Bool.f).bind fun t762 => (if x744001 = t762 then (stratumlaw05_TlvField.j1 k bt749.1 bt749.2 (([(x744002) % 256] : List Int)) x744000 x744001 x744002 x744003) else (if x744003.size ≤ 9223372036854775807 then (stratumlaw05_TlvField.j1 k bt749.1 bt749.2 (bytesOf x744003) x744000 x744001 x744002 x744003) else (none)))))))) else (some (bt749.2 == 1)))
def stratumlaw05_TlvField.j1 : Nat → List Int → Int → List Int → Int → Int → Int → ByteArray → Option (Bool)
 | 0, _, _, _, _, _, _, _ => none
 | k + 1, x4, x5, x6, x744000, x744001, x744002, x744003 => (varint_Put.f k ([] : List Int) (IntKind.u64.wrap ((IntKind.u64.wrap (8 * (IntKind.u64.wrap (x744000)))) + (IntKind.u64.wrap (x744001))))).bind fun t769 => ((varint_Put.f k t769 (IntKind.u64.wrap ((x6.length : Int)))).bind fun t772 => (if (wrap64 ((t772.length : Int) + (x6.length : Int))) > 16777215 then (if x5 = 2 then (some ((x4.length : Int) == 0)) else (some false)) else (if x5 = 0 then (if (strOfNums t772).size + (strOfNums x6).size ≤ 9223372036854775807 then (some ((strOfNums x4).toList == ((strOfNums t772) ++ (strOfNums x6)).toList)) else (none)) else (some false))))
end
def stratumlaw05_TlvField.f (k : Nat) (a0_0 : Int) (a0_1 : Int) (a0_2 : Int) (a0_3 : ByteArray) : Option (Bool) := (stratumlaw05_lives.f k).bind fun t744 => (if t744 = true then (if (a0_3.size : Int) > 33554432 then (some true) else (if a0_0 ≥ 1 then (if a0_0 ≤ 65535 then ((kind_Valid.f k a0_1 a0_2 a0_3).bind fun t745 => (stratumlaw05_TlvField.j0 k t745 a0_0 a0_1 a0_2 a0_3)) else (stratumlaw05_TlvField.j0 k false a0_0 a0_1 a0_2 a0_3)) else (stratumlaw05_TlvField.j0 k false a0_0 a0_1 a0_2 a0_3))) else (some false))
set_option maxHeartbeats 8000000 in
set_option maxRecDepth 100000 in
theorem stratumlaw05_TlvField.calls (k : Nat) (a0_0 : Int) (a0_1 : Int) (a0_2 : Int) (a0_3 : ByteArray) (r : Bool) (w : World) (h : stratumlaw05_TlvField.f k a0_0 a0_1 a0_2 a0_3 = some r) (hr_ : Aside0 (r = true)) :
  Calls Try.prog 14 #[.agg #[.int .i64 a0_0, .int .i64 a0_1, .int .u64 a0_2, .string a0_3]] w fun e w' => e = .returned (.bool r) ∧ Below w.heap.size w w' := by
 have hu53 := Try.underlying53
 have hu51 := Try.underlying51
 have HB := Aside0.mk (Below.refl w.heap.size w)
 have H : ((stratumlaw05_lives.f k).bind fun t744 => (if t744 = true then (if (a0_3.size : Int) > 33554432 then (some true) else (if a0_0 ≥ 1 then (if a0_0 ≤ 65535 then ((kind_Valid.f k a0_1 a0_2 a0_3).bind fun t745 => (stratumlaw05_TlvField.j0 k t745 a0_0 a0_1 a0_2 a0_3)) else (stratumlaw05_TlvField.j0 k false a0_0 a0_1 a0_2 a0_3)) else (stratumlaw05_TlvField.j0 k false a0_0 a0_1 a0_2 a0_3))) else (some false))) = some r := h
 clear h
 replace H := Option.bind_eq_some_iff.mp H
 obtain ⟨t744, A20, H⟩ := H
 replace H : (if t744 = true then (if (a0_3.size : Int) > 33554432 then (some true) else (if a0_0 ≥ 1 then (if a0_0 ≤ 65535 then ((kind_Valid.f k a0_1 a0_2 a0_3).bind fun t745 => (stratumlaw05_TlvField.j0 k t745 a0_0 a0_1 a0_2 a0_3)) else (stratumlaw05_TlvField.j0 k false a0_0 a0_1 a0_2 a0_3)) else (stratumlaw05_TlvField.j0 k false a0_0 a0_1 a0_2 a0_3))) else (some false)) = some r := H
 have A2 := Aside0.mk A20
 clear A20
 by_cases c3 : t744 = true
 ·subst c3
  have H1 : (if (a0_3.size : Int) > 33554432 then (some true) else (if a0_0 ≥ 1 then (if a0_0 ≤ 65535 then ((kind_Valid.f k a0_1 a0_2 a0_3).bind fun t745 => (stratumlaw05_TlvField.j0 k t745 a0_0 a0_1 a0_2 a0_3)) else (stratumlaw05_TlvField.j0 k false a0_0 a0_1 a0_2 a0_3)) else (stratumlaw05_TlvField.j0 k false a0_0 a0_1 a0_2 a0_3))) = some r := by rw [if_pos rfl] at H; exact H
  clear H
  have H := H1
  clear H1
  by_cases c4 : (a0_3.size : Int) > 33554432
  ·rw [if_pos c4] at H
   have c4b0 : decide (33554432 < (a0_3.size : Int)) = true := decide_eq_true c4
   have c4b1 : decide (33554432 < a0_3.size) = true := decide_eq_true (by omega)
   clear c4
   obtain rfl := Option.some.inj H
   go_enter Try.func14, Try.ntmps14
   go_wp2_with (first | ((with_reducible refine gate_dst (N := 1) rfl ?_); (try (refine gate_guard (by rfl) ?_; dsimp only)); refine box_event ?hg (N := 1) ?hd (cs := #[.int .i64 a0_0, .int .i64 a0_1, .int .u64 a0_2, .string a0_3]) (t := 53) ?hr ?_; (case hd => rfl); (case hg => rfl); (case hr => first | (go_simp; done) | (go_simp; rfl)); intro gb743 hg w5 hbox hb; have n0_ := Aside0.mk (below_step (by repeat (first | (with_reducible first | exact HB.out | apply below_alloc | apply pw_below_drewN | apply below_drew1) | exact HB.out)) hb); have n1_ := Aside0.mk (hbox); have n2_ := Aside0.mk ((by rw [hg]; exact (below_size (by repeat (first | (with_reducible first | exact HB.out | apply below_alloc | apply pw_below_drewN | apply below_drew1) | exact HB.out))) : w.heap.size ≤ gb743)); have n3_ := Aside0.mk ((by rw [hg]; exact (below_size (by repeat (first | (with_reducible first | exact HB.out | apply below_alloc | apply pw_below_drewN | apply below_drew1) | exact HB.out))) : w.heap.size ≤ gb743)); clear HB; have HB := n0_; have BK743 := n1_; have GW743 := n2_; have GE743 := n3_; clear n0_ n1_ n2_ n3_; clear hb hbox hg) | ((with_reducible refine gate_callee (f := 30) rfl ?_); refine goesL_ (some 8) rfl rfl Try.func30 (by kernel_rfl) rfl #[] rfl (by (try simp only [List.map_toArray, List.map_cons, List.map_nil]); first | done | rfl | (simp only [List.length_drop, List.length_take]; rfl)) ?_; (with_reducible refine (stratumlaw05_lives.calls k  true _ A2.out).mono ?_); rintro e w6 ⟨rfl, hb⟩; refine ⟨_, rfl, ?_⟩; have n0_ := Aside0.mk (blk_below (g := gb743) (o := .cells #[.int .i64 a0_0, .int .i64 a0_1, .int .u64 a0_2, .string a0_3] 53 (0, 0)) (by (with_reducible repeat (first | refine blk_drewN ?_ _ | refine blk_drew ?_ | refine blk_alloc ?_ _)); exact BK743.out) hb); have n1_ := Aside0.mk (below_step (by repeat (first | (with_reducible first | exact HB.out | apply below_alloc | apply pw_below_drewN | apply below_drew1 | refine below_set ?_ GE743.out) | exact HB.out)) hb); clear BK743; clear HB; have BK743 := n0_; have HB := n1_; clear n0_ n1_; (try clear hb); (try clear hb2); (try clear hk); (try clear hi); have hcz7_0 : w6.cell? ⟨gb743, 0, none⟩ = some (.int .i64 a0_0) := (blk_cell BK743.out 0).trans rfl; have hcz7_1 : w6.cell? ⟨gb743, 1, none⟩ = some (.int .i64 a0_1) := (blk_cell BK743.out 1).trans rfl; have hcz7_2 : w6.cell? ⟨gb743, 2, none⟩ = some (.int .u64 a0_2) := (blk_cell BK743.out 2).trans rfl; have hcz7_3 : w6.cell? ⟨gb743, 3, none⟩ = some (.string a0_3) := (blk_cell BK743.out 3).trans rfl; have hfz7_0 := blk_frozen BK743.out 0; have hfz7_1 := blk_frozen BK743.out 1; have hfz7_2 := blk_frozen BK743.out 2; have hfz7_3 := blk_frozen BK743.out 3))
   go_ret
   exact ⟨by first | rfl | (simp [errW_none, errW_some] <;> rfl) | (simp [*, errW_none, errW_some] <;> rfl), by repeat (first | (with_reducible first | exact HB.out | apply below_alloc | apply pw_below_drewN | apply below_drew1 | refine below_set ?_ GE743.out) | exact HB.out)⟩
  ·rw [if_neg c4] at H
   have c4b0 : decide (33554432 < (a0_3.size : Int)) = false := decide_eq_false c4
   have c4b1 : decide (33554432 < a0_3.size) = false := decide_eq_false (by omega)
   clear c4
   have HC8 := Aside0.mk H
   clear H
   go_enter Try.func14, Try.ntmps14
   go_upto_region 5 with (first | ((with_reducible refine gate_dst (N := 1) rfl ?_); (try (refine gate_guard (by rfl) ?_; dsimp only)); refine box_event ?hg (N := 1) ?hd (cs := #[.int .i64 a0_0, .int .i64 a0_1, .int .u64 a0_2, .string a0_3]) (t := 53) ?hr ?_; (case hd => rfl); (case hg => rfl); (case hr => first | (go_simp; done) | (go_simp; rfl)); intro gb743 hg w9 hbox hb; have n0_ := Aside0.mk (below_step (by repeat (first | (with_reducible first | exact HB.out | apply below_alloc | apply pw_below_drewN | apply below_drew1) | exact HB.out)) hb); have n1_ := Aside0.mk (hbox); have n2_ := Aside0.mk ((by rw [hg]; exact (below_size (by repeat (first | (with_reducible first | exact HB.out | apply below_alloc | apply pw_below_drewN | apply below_drew1) | exact HB.out))) : w.heap.size ≤ gb743)); have n3_ := Aside0.mk ((by rw [hg]; exact (below_size (by repeat (first | (with_reducible first | exact HB.out | apply below_alloc | apply pw_below_drewN | apply below_drew1) | exact HB.out))) : w.heap.size ≤ gb743)); clear HB; have HB := n0_; have BK743 := n1_; have GW743 := n2_; have GE743 := n3_; clear n0_ n1_ n2_ n3_; clear hb hbox hg) | ((with_reducible refine gate_callee (f := 30) rfl ?_); refine goesL_ (some 8) rfl rfl Try.func30 (by kernel_rfl) rfl #[] rfl (by (try simp only [List.map_toArray, List.map_cons, List.map_nil]); first | done | rfl | (simp only [List.length_drop, List.length_take]; rfl)) ?_; (with_reducible refine (stratumlaw05_lives.calls k  true _ A2.out).mono ?_); rintro e w10 ⟨rfl, hb⟩; refine ⟨_, rfl, ?_⟩; have n0_ := Aside0.mk (blk_below (g := gb743) (o := .cells #[.int .i64 a0_0, .int .i64 a0_1, .int .u64 a0_2, .string a0_3] 53 (0, 0)) (by (with_reducible repeat (first | refine blk_drewN ?_ _ | refine blk_drew ?_ | refine blk_alloc ?_ _)); exact BK743.out) hb); have n1_ := Aside0.mk (below_step (by repeat (first | (with_reducible first | exact HB.out | apply below_alloc | apply pw_below_drewN | apply below_drew1 | refine below_set ?_ GE743.out) | exact HB.out)) hb); clear BK743; clear HB; have BK743 := n0_; have HB := n1_; clear n0_ n1_; (try clear hb); (try clear hb2); (try clear hk); (try clear hi); have hcz11_0 : w10.cell? ⟨gb743, 0, none⟩ = some (.int .i64 a0_0) := (blk_cell BK743.out 0).trans rfl; have hcz11_1 : w10.cell? ⟨gb743, 1, none⟩ = some (.int .i64 a0_1) := (blk_cell BK743.out 1).trans rfl; have hcz11_2 : w10.cell? ⟨gb743, 2, none⟩ = some (.int .u64 a0_2) := (blk_cell BK743.out 2).trans rfl; have hcz11_3 : w10.cell? ⟨gb743, 3, none⟩ = some (.string a0_3) := (blk_cell BK743.out 3).trans rfl; have hfz11_0 := blk_frozen BK743.out 0; have hfz11_1 := blk_frozen BK743.out 1; have hfz11_2 := blk_frozen BK743.out 2; have hfz11_3 := blk_frozen BK743.out 3))
   (try simp only [Act.put, List.setIfInBounds_toArray, List.set_cons_zero, List.set_cons_succ])
   go_cut [3] (fun v3 wc => ∃ (kq : Nat) (x3_7 : Bool), v3 = .bool x3_7 ∧ Aside0 (stratumlaw05_TlvField.j0 kq x3_7 a0_0 a0_1 a0_2 a0_3 = some r) ∧ Aside0 (kq ≤ k) ∧ Aside0 (wc.heap[gb743]? = some (.cells #[.int .i64 a0_0, .int .i64 a0_1, .int .u64 a0_2, .string a0_3] 53 (0, 0))) ∧ Aside0 (Below w.heap.size w wc))
   case first =>
    have H := HC8.out
    clear HC8
    by_cases c12 : a0_0 ≥ 1
    ·rw [if_pos c12] at H
     have c12b0 : decide (1 ≤ a0_0) = true := decide_eq_true c12
     clear c12
     (first | rw [c12b0] | (simp only [i64_w, i32_w]; rw [c12b0]) | skip)
     by_cases c13 : a0_0 ≤ 65535
     ·rw [if_pos c13] at H
      have c13b0 : decide (a0_0 ≤ 65535) = true := decide_eq_true c13
      clear c13
      replace H := Option.bind_eq_some_iff.mp H
      obtain ⟨t745, A140, H⟩ := H
      replace H : (stratumlaw05_TlvField.j0 k t745 a0_0 a0_1 a0_2 a0_3) = some r := H
      have A14 := Aside0.mk A140
      clear A140
      have H' := Aside0.mk H
      clear H
      have hcz15_0 : w10.cell? ⟨gb743, 0, none⟩ = some (.int .i64 a0_0) := (blk_cell BK743.out 0).trans rfl
      have hcz15_1 : w10.cell? ⟨gb743, 1, none⟩ = some (.int .i64 a0_1) := (blk_cell BK743.out 1).trans rfl
      have hcz15_2 : w10.cell? ⟨gb743, 2, none⟩ = some (.int .u64 a0_2) := (blk_cell BK743.out 2).trans rfl
      have hcz15_3 : w10.cell? ⟨gb743, 3, none⟩ = some (.string a0_3) := (blk_cell BK743.out 3).trans rfl
      have hfz15_0 := blk_frozen BK743.out 0
      have hfz15_1 := blk_frozen BK743.out 1
      have hfz15_2 := blk_frozen BK743.out 2
      have hfz15_3 := blk_frozen BK743.out 3
      go_wp2_with (first | (go_at_call 42; (with_reducible refine (kind_Valid.calls k a0_1 a0_2 a0_3 t745 _ A14.out).mono ?_); rintro e w16 ⟨rfl, hb⟩; have n0_ := Aside0.mk (blk_below (g := gb743) (o := .cells #[.int .i64 a0_0, .int .i64 a0_1, .int .u64 a0_2, .string a0_3] 53 (0, 0)) (by (with_reducible repeat (first | refine blk_drewN ?_ _ | refine blk_drew ?_ | refine blk_alloc ?_ _)); exact BK743.out) hb); have n1_ := Aside0.mk (below_step (by repeat (first | (with_reducible first | exact HB.out | apply below_alloc | apply pw_below_drewN | apply below_drew1 | refine below_set ?_ GE743.out) | exact HB.out)) hb); clear BK743; clear HB; have BK743 := n0_; have HB := n1_; clear n0_ n1_; (try clear hb); (try clear hb2); (try clear hk); (try clear hi)))
      go_meet
      case rel => exact ⟨_, (t745), (by first | rfl | (simp; done) | (simp [*]; done)), H', ⟨by first | omega | exact Nat.le_refl _⟩, ⟨by (with_reducible repeat (first | refine blk_drewN ?_ _ | refine blk_drew ?_ | refine blk_alloc ?_ _)); exact BK743.out⟩, ⟨by repeat (first | (with_reducible first | exact HB.out | apply below_alloc | apply pw_below_drewN | apply below_drew1 | refine below_set ?_ GE743.out) | exact HB.out)⟩⟩
     ·rw [if_neg c13] at H
      have c13b0 : decide (a0_0 ≤ 65535) = false := decide_eq_false c13
      clear c13
      have H' := Aside0.mk H
      clear H
      have hcz17_0 : w10.cell? ⟨gb743, 0, none⟩ = some (.int .i64 a0_0) := (blk_cell BK743.out 0).trans rfl
      have hcz17_1 : w10.cell? ⟨gb743, 1, none⟩ = some (.int .i64 a0_1) := (blk_cell BK743.out 1).trans rfl
      have hcz17_2 : w10.cell? ⟨gb743, 2, none⟩ = some (.int .u64 a0_2) := (blk_cell BK743.out 2).trans rfl
      have hcz17_3 : w10.cell? ⟨gb743, 3, none⟩ = some (.string a0_3) := (blk_cell BK743.out 3).trans rfl
      have hfz17_0 := blk_frozen BK743.out 0
      have hfz17_1 := blk_frozen BK743.out 1
      have hfz17_2 := blk_frozen BK743.out 2
      have hfz17_3 := blk_frozen BK743.out 3
      go_wp2
      go_meet
      case rel => exact ⟨_, (false), (by first | rfl | (simp; done) | (simp [*]; done)), H', ⟨by first | omega | exact Nat.le_refl _⟩, ⟨by (with_reducible repeat (first | refine blk_drewN ?_ _ | refine blk_drew ?_ | refine blk_alloc ?_ _)); exact BK743.out⟩, ⟨by repeat (first | (with_reducible first | exact HB.out | apply below_alloc | apply pw_below_drewN | apply below_drew1 | refine below_set ?_ GE743.out) | exact HB.out)⟩⟩
    ·rw [if_neg c12] at H
     have c12b0 : decide (1 ≤ a0_0) = false := decide_eq_false c12
     clear c12
     (first | rw [c12b0] | (simp only [i64_w, i32_w]; rw [c12b0]) | skip)
     have H' := Aside0.mk H
     clear H
     have hcz18_0 : w10.cell? ⟨gb743, 0, none⟩ = some (.int .i64 a0_0) := (blk_cell BK743.out 0).trans rfl
     have hcz18_1 : w10.cell? ⟨gb743, 1, none⟩ = some (.int .i64 a0_1) := (blk_cell BK743.out 1).trans rfl
     have hcz18_2 : w10.cell? ⟨gb743, 2, none⟩ = some (.int .u64 a0_2) := (blk_cell BK743.out 2).trans rfl
     have hcz18_3 : w10.cell? ⟨gb743, 3, none⟩ = some (.string a0_3) := (blk_cell BK743.out 3).trans rfl
     have hfz18_0 := blk_frozen BK743.out 0
     have hfz18_1 := blk_frozen BK743.out 1
     have hfz18_2 := blk_frozen BK743.out 2
     have hfz18_3 := blk_frozen BK743.out 3
     go_wp2
     go_meet
     case rel => exact ⟨_, (false), (by first | rfl | (simp; done) | (simp [*]; done)), H', ⟨by first | omega | exact Nat.le_refl _⟩, ⟨by (with_reducible repeat (first | refine blk_drewN ?_ _ | refine blk_drew ?_ | refine blk_alloc ?_ _)); exact BK743.out⟩, ⟨by repeat (first | (with_reducible first | exact HB.out | apply below_alloc | apply pw_below_drewN | apply below_drew1 | refine below_set ?_ GE743.out) | exact HB.out)⟩⟩
   case rest =>
    clear HC8
    try clear c1
    try clear p2
    try clear c3
    try clear c4
    try clear c4b0
    try clear c4b1
    try clear c12
    try clear c12b0
    try clear c13
    try clear c13b0
    try clear c14
    try clear hcz11_0
    try clear hcz11_1
    try clear hcz11_2
    try clear hcz11_3
    try clear hcz15_0
    try clear hcz15_1
    try clear hcz15_2
    try clear hcz15_3
    try clear hcz17_0
    try clear hcz17_1
    try clear hcz17_2
    try clear hcz17_3
    try clear hcz18_0
    try clear hcz18_1
    try clear hcz18_2
    try clear hcz18_3
    try clear hcz7_0
    try clear hcz7_1
    try clear hcz7_2
    try clear hcz7_3
    try clear hfz11_0
    try clear hfz11_1
    try clear hfz11_2
    try clear hfz11_3
    try clear hfz15_0
    try clear hfz15_1
    try clear hfz15_2
    try clear hfz15_3
    try clear hfz17_0
    try clear hfz17_1
    try clear hfz17_2
    try clear hfz17_3
    try clear hfz18_0
    try clear hfz18_1
    try clear hfz18_2
    try clear hfz18_3
    try clear hfz7_0
    try clear hfz7_1
    try clear hfz7_2
    try clear hfz7_3
    obtain ⟨kq, x3_7, rfl, HA, HJ7, BK743, HB⟩ := hcut
    cases kq with
    | zero => exact absurd HA.out (by simp [stratumlaw05_TlvField.j0])
    | succ kj7 =>
     have H := HA.out
     clear HA
     simp only [stratumlaw05_TlvField.j0] at H
     obtain ⟨y746, hy746⟩ : ∃ y_ : List (S53), y_ = (([(⟨a0_0, (⟨a0_1, a0_2, a0_3⟩ : S51)⟩ : S53)] : List (S53))) := ⟨_, rfl⟩
     replace H : ((tlv_Encode.f kj7 y746).bind fun bt749 => (if x3_7 = true then ((kind_Uint.f).bind fun t753 => (if a0_1 = t753 then ((varint_Put.f kj7 ([] : List Int) a0_2).bind fun t754 => (stratumlaw05_TlvField.j1 kj7 bt749.1 bt749.2 t754 a0_0 a0_1 a0_2 a0_3)) else ((kind_Int.f).bind fun t757 => (if a0_1 = t757 then ((varint_Zig.f (wrap64 (a0_2))).bind fun t758 => ((varint_Put.f kj7 ([] : List Int) t758).bind fun t759 => (stratumlaw05_TlvField.j1 kj7 bt749.1 bt749.2 t759 a0_0 a0_1 a0_2 a0_3))) else ((kind_Bool.f).bind fun t762 => (if a0_1 = t762 then (stratumlaw05_TlvField.j1 kj7 bt749.1 bt749.2 (([(a0_2) % 256] : List Int)) a0_0 a0_1 a0_2 a0_3) else (if a0_3.size ≤ 9223372036854775807 then (stratumlaw05_TlvField.j1 kj7 bt749.1 bt749.2 (bytesOf a0_3) a0_0 a0_1 a0_2 a0_3) else (none)))))))) else (some (bt749.2 == 1)))) = some r := by first | (rw [hy746]; with_reducible exact H) | (have H2_ := (Option.bind_some _ _).symm.trans H; rw [hy746]; with_reducible exact H2_) | (have H2_ := (Option.bind_some _ _).symm.trans H; with_reducible exact H2_) | with_reducible exact H | (rw [hy746]; exact H) | exact H
     have Ny746 := Aside0.mk hy746
     clear hy746
     replace H := Option.bind_eq_some_iff.mp H
     obtain ⟨⟨t749, t750⟩, A190, H⟩ := H
     replace H : (if x3_7 = true then ((kind_Uint.f).bind fun t753 => (if a0_1 = t753 then ((varint_Put.f kj7 ([] : List Int) a0_2).bind fun t754 => (stratumlaw05_TlvField.j1 kj7 t749 t750 t754 a0_0 a0_1 a0_2 a0_3)) else ((kind_Int.f).bind fun t757 => (if a0_1 = t757 then ((varint_Zig.f (wrap64 (a0_2))).bind fun t758 => ((varint_Put.f kj7 ([] : List Int) t758).bind fun t759 => (stratumlaw05_TlvField.j1 kj7 t749 t750 t759 a0_0 a0_1 a0_2 a0_3))) else ((kind_Bool.f).bind fun t762 => (if a0_1 = t762 then (stratumlaw05_TlvField.j1 kj7 t749 t750 (([(a0_2) % 256] : List Int)) a0_0 a0_1 a0_2 a0_3) else (if a0_3.size ≤ 9223372036854775807 then (stratumlaw05_TlvField.j1 kj7 t749 t750 (bytesOf a0_3) a0_0 a0_1 a0_2 a0_3) else (none)))))))) else (some (t750 == 1))) = some r := H
     have A19 := Aside0.mk A190
     clear A190
     by_cases c20 : x3_7 = true
     ·subst c20
      have H1 : ((kind_Uint.f).bind fun t753 => (if a0_1 = t753 then ((varint_Put.f kj7 ([] : List Int) a0_2).bind fun t754 => (stratumlaw05_TlvField.j1 kj7 t749 t750 t754 a0_0 a0_1 a0_2 a0_3)) else ((kind_Int.f).bind fun t757 => (if a0_1 = t757 then ((varint_Zig.f (wrap64 (a0_2))).bind fun t758 => ((varint_Put.f kj7 ([] : List Int) t758).bind fun t759 => (stratumlaw05_TlvField.j1 kj7 t749 t750 t759 a0_0 a0_1 a0_2 a0_3))) else ((kind_Bool.f).bind fun t762 => (if a0_1 = t762 then (stratumlaw05_TlvField.j1 kj7 t749 t750 (([(a0_2) % 256] : List Int)) a0_0 a0_1 a0_2 a0_3) else (if a0_3.size ≤ 9223372036854775807 then (stratumlaw05_TlvField.j1 kj7 t749 t750 (bytesOf a0_3) a0_0 a0_1 a0_2 a0_3) else (none)))))))) = some r := by rw [if_pos rfl] at H; exact H
      clear H
      have H := H1
      clear H1
      have HC21 := Aside0.mk H
      clear H
      have hcz22_0 : wc.cell? ⟨gb743, 0, none⟩ = some (.int .i64 a0_0) := (blk_cell BK743.out 0).trans rfl
      have hcz22_1 : wc.cell? ⟨gb743, 1, none⟩ = some (.int .i64 a0_1) := (blk_cell BK743.out 1).trans rfl
      have hcz22_2 : wc.cell? ⟨gb743, 2, none⟩ = some (.int .u64 a0_2) := (blk_cell BK743.out 2).trans rfl
      have hcz22_3 : wc.cell? ⟨gb743, 3, none⟩ = some (.string a0_3) := (blk_cell BK743.out 3).trans rfl
      have hfz22_0 := blk_frozen BK743.out 0
      have hfz22_1 := blk_frozen BK743.out 1
      have hfz22_2 := blk_frozen BK743.out 2
      have hfz22_3 := blk_frozen BK743.out 3
      go_upto_block 0 with (first | ((with_reducible refine gate_dst (N := 30) rfl ?_); (try (refine gate_guard (by rfl) ?_; dsimp only)); refine Kd.R_lit k53 _ 53 ?hg (N := 30) ?hd (xs := ([(⟨a0_0, (⟨a0_1, a0_2, a0_3⟩ : S51)⟩ : S53)] : List (S53))) (inner := [.int .i64 a0_0, .int .i64 a0_1, .int .u64 a0_2, .string a0_3]) (ok := fun _ => True) (okp := fun _ => True) ?hr ?hp (fun _ hk => hk) trivial (Below.refl _ _) (Nat.le_refl _) (by simp) ?_; (case hd => rfl); (case hg => rfl); (case hr => first | (go_simp; done) | (go_simp; rfl)); (case hp => exact (Reps.c4 (show Kd.M k53 _ _ _ (⟨a0_0, (⟨a0_1, a0_2, a0_3⟩ : S51)⟩ : S53) [.int .i64 a0_0, .int .i64 a0_1, .int .u64 a0_2, .string a0_3] from (k53_mkM _ _ _ (⟨a0_0, (⟨a0_1, a0_2, a0_3⟩ : S51)⟩ : S53) )) (Reps.none _ _))); intro v747 w23 ho24 hb hg_ hnew_; clear hg_ hnew_; (first | rw [← Ny746.out] at ho24 | (simp only [Int.reduceToNat] at ho24; rw [← Ny746.out] at ho24)); have n0_ := Aside0.mk (Kd.R_lower (Kd.R_newB ho24 (g := gb743) (o := .cells #[.int .i64 a0_0, .int .i64 a0_1, .int .u64 a0_2, .string a0_3] 53 (0, 0)) (by (with_reducible repeat (first | refine blk_drewN ?_ _ | refine blk_drew ?_ | refine blk_alloc ?_ _)); exact BK743.out)) (below_size (by repeat (first | (with_reducible first | exact HB.out | apply below_alloc | apply pw_below_drewN | apply below_drew1 | refine below_set ?_ GE743.out) | exact HB.out)))); have n1_ := Aside0.mk (blk_below (g := gb743) (o := .cells #[.int .i64 a0_0, .int .i64 a0_1, .int .u64 a0_2, .string a0_3] 53 (0, 0)) (by (with_reducible repeat (first | refine blk_drewN ?_ _ | refine blk_drew ?_ | refine blk_alloc ?_ _)); exact BK743.out) hb); have n2_ := Aside0.mk (below_step (by repeat (first | (with_reducible first | exact HB.out | apply below_alloc | apply pw_below_drewN | apply below_drew1 | refine below_set ?_ GE743.out) | exact HB.out)) hb); clear BK743; clear HB; have HO748 := n0_; have BK743 := n1_; have HB := n2_; clear n0_ n1_ n2_; clear hb ho24; obtain ⟨Ao25, co25, eo25⟩ := Kd.R_slice HO748.out; subst eo25) | ((with_reducible refine gate_callee (f := 35) rfl ?_); refine goesL_ (some 31) rfl rfl Try.func35 (by kernel_rfl) rfl #[.slice Ao25 y746.length co25] rfl (by (try simp only [List.map_toArray, List.map_cons, List.map_nil]); first | done | rfl | (simp only [List.length_drop, List.length_take]; rfl)) ?_; (with_reducible refine (tlv_Encode.calls kj7 _ _ y746 t749 t750 _ ?side1 ?side2 A19.out).mono ?_); (case side1 => repeat (first | exact (Kd.R_reads' HO748.out).2.2 | (with_reducible refine Kd.C_alloc ?_ _) | (with_reducible refine Kd.C_drewN ?_ _) | (with_reducible refine Kd.C_drew ?_))); (case side2 => exact (Kd.R_reads' HO748.out).2.1); rintro e w26 ⟨v751, rfl, ho0, hb⟩; refine ⟨_, rfl, ?_⟩; have n0_ := Aside0.mk (Kd.R_below (by (with_reducible repeat (first | apply Kd.R_alloc | apply Kd.R_drewN | apply Kd.R_drew)); exact HO748.out) hb); have n1_ := Aside0.mk (Kd.R_lower ho0 (below_size (by repeat (first | (with_reducible first | exact HB.out | apply below_alloc | apply pw_below_drewN | apply below_drew1 | refine below_set ?_ GE743.out) | exact HB.out)))); have n2_ := Aside0.mk (blk_below (g := gb743) (o := .cells #[.int .i64 a0_0, .int .i64 a0_1, .int .u64 a0_2, .string a0_3] 53 (0, 0)) (by (with_reducible repeat (first | refine blk_drewN ?_ _ | refine blk_drew ?_ | refine blk_alloc ?_ _)); exact BK743.out) hb); have n3_ := Aside0.mk (below_step (by repeat (first | (with_reducible first | exact HB.out | apply below_alloc | apply pw_below_drewN | apply below_drew1 | refine below_set ?_ GE743.out) | exact HB.out)) hb); clear HO748; clear BK743; clear HB; have HO748 := n0_; have HO752 := n1_; have BK743 := n2_; have HB := n3_; clear n0_ n1_ n2_ n3_; (try clear hb); (try clear hb2); (try clear hk); (try clear hi); (try clear ho0); have hcz27_0 : w26.cell? ⟨gb743, 0, none⟩ = some (.int .i64 a0_0) := (blk_cell BK743.out 0).trans rfl; have hcz27_1 : w26.cell? ⟨gb743, 1, none⟩ = some (.int .i64 a0_1) := (blk_cell BK743.out 1).trans rfl; have hcz27_2 : w26.cell? ⟨gb743, 2, none⟩ = some (.int .u64 a0_2) := (blk_cell BK743.out 2).trans rfl; have hcz27_3 : w26.cell? ⟨gb743, 3, none⟩ = some (.string a0_3) := (blk_cell BK743.out 3).trans rfl; have hfz27_0 := blk_frozen BK743.out 0; have hfz27_1 := blk_frozen BK743.out 1; have hfz27_2 := blk_frozen BK743.out 2; have hfz27_3 := blk_frozen BK743.out 3))
      (try simp only [Act.put, List.setIfInBounds_toArray, List.set_cons_zero, List.set_cons_succ])
      go_cut [6] (fun v6 wc => ∃ (kq : Nat) (x6_20 : List Int), Aside0 (stratumlaw05_TlvField.j1 kq t749 t750 x6_20 a0_0 a0_1 a0_2 a0_3 = some r) ∧ Aside0 (kq ≤ kj7) ∧ Aside0 (Kd.R (Kd.int .u8) 5 wc w.heap.size (fun _ => True) v751 t749) ∧ Aside0 (Kd.V (Kd.int .u8) 5 wc w.heap.size (fun k_ => some k_ ≠ (v751 : Value).ownBlock ∧ k_ ≠ gb743) v6 x6_20) ∧ Aside0 (wc.heap[gb743]? = some (.cells #[.int .i64 a0_0, .int .i64 a0_1, .int .u64 a0_2, .string a0_3] 53 (0, 0))) ∧ Aside0 (Below w.heap.size w wc))
      case first =>
       have H := HC21.out
       clear HC21
       replace H := Option.bind_eq_some_iff.mp H
       obtain ⟨t753, A280, H⟩ := H
       replace H : (if a0_1 = t753 then ((varint_Put.f kj7 ([] : List Int) a0_2).bind fun t754 => (stratumlaw05_TlvField.j1 kj7 t749 t750 t754 a0_0 a0_1 a0_2 a0_3)) else ((kind_Int.f).bind fun t757 => (if a0_1 = t757 then ((varint_Zig.f (wrap64 (a0_2))).bind fun t758 => ((varint_Put.f kj7 ([] : List Int) t758).bind fun t759 => (stratumlaw05_TlvField.j1 kj7 t749 t750 t759 a0_0 a0_1 a0_2 a0_3))) else ((kind_Bool.f).bind fun t762 => (if a0_1 = t762 then (stratumlaw05_TlvField.j1 kj7 t749 t750 (([(a0_2) % 256] : List Int)) a0_0 a0_1 a0_2 a0_3) else (if a0_3.size ≤ 9223372036854775807 then (stratumlaw05_TlvField.j1 kj7 t749 t750 (bytesOf a0_3) a0_0 a0_1 a0_2 a0_3) else (none))))))) = some r := H
       have A28 := Aside0.mk A280
       clear A280
       by_cases c29 : a0_1 = t753
       ·rw [if_pos c29] at H
        have c29b0 : (a0_1 == t753) = true := beq_iff_eq.mpr c29
        have c29b1 : (a0_1 != t753) = false := bne_eq_false_iff_eq.mpr c29
        clear c29
        (first | rw [c29b0] | (simp only [i64_w, i32_w]; rw [c29b0]) | skip)
        replace H := Option.bind_eq_some_iff.mp H
        obtain ⟨t754, A300, H⟩ := H
        replace H : (stratumlaw05_TlvField.j1 kj7 t749 t750 t754 a0_0 a0_1 a0_2 a0_3) = some r := H
        have A30 := Aside0.mk A300
        clear A300
        have H' := Aside0.mk H
        clear H
        go_wp2_with (first | ((with_reducible refine gate_callee (f := 43) rfl ?_); refine goesL_ (some 46) rfl rfl Try.func43 (by kernel_rfl) rfl #[] rfl (by (try simp only [List.map_toArray, List.map_cons, List.map_nil]); first | done | rfl | (simp only [List.length_drop, List.length_take]; rfl)) ?_; (with_reducible refine (kind_Uint.calls  t753 _ A28.out).mono ?_); rintro e w' ⟨rfl, ⟨nd, rfl⟩⟩; refine ⟨_, rfl, ?_⟩; have hcz31_0 : w26.cell? ⟨gb743, 0, none⟩ = some (.int .i64 a0_0) := (blk_cell BK743.out 0).trans rfl; have hcz31_1 : w26.cell? ⟨gb743, 1, none⟩ = some (.int .i64 a0_1) := (blk_cell BK743.out 1).trans rfl; have hcz31_2 : w26.cell? ⟨gb743, 2, none⟩ = some (.int .u64 a0_2) := (blk_cell BK743.out 2).trans rfl; have hcz31_3 : w26.cell? ⟨gb743, 3, none⟩ = some (.string a0_3) := (blk_cell BK743.out 3).trans rfl; have hfz31_0 := blk_frozen BK743.out 0; have hfz31_1 := blk_frozen BK743.out 1; have hfz31_2 := blk_frozen BK743.out 2; have hfz31_3 := blk_frozen BK743.out 3) | ((with_reducible refine gate_callee (f := 44) rfl ?_); refine goesL_ (some 51) rfl rfl Try.func44 (by kernel_rfl) rfl #[.slice none 0 0, .int .u64 a0_2] rfl (by (try simp only [List.map_toArray, List.map_cons, List.map_nil]); first | done | rfl | (simp only [List.length_drop, List.length_take]; rfl)) ?_; (refine (varint_Put.calls kj7 _ _ ([] : List Int) a0_2 t754 _ ?side1 ?side2 A30.out).mono ?_); (case side1 => exact Kd.C_nil _ _); (case side2 => exact Nat.le_refl _); rintro e w32 ⟨v755, rfl, ho0, hb⟩; refine ⟨_, rfl, ?_⟩; have n0_ := Aside0.mk (Kd.R_below (by (with_reducible repeat (first | apply Kd.R_alloc | apply Kd.R_drewN | apply Kd.R_drew)); exact HO748.out) hb); have n1_ := Aside0.mk (Kd.R_elder' (by (with_reducible repeat (first | apply Kd.R_alloc | apply Kd.R_drewN | apply Kd.R_drew)); exact HO752.out) (Kd.R_base ho0) hb); have n2_ := Aside0.mk (Kd.R_lower (Kd.R_new' ho0 (Kd.R_lt (by (with_reducible repeat (first | apply Kd.R_alloc | apply Kd.R_drewN | apply Kd.R_drew)); exact HO752.out))) (below_size (by repeat (first | (with_reducible first | exact HB.out | apply below_alloc | apply pw_below_drewN | apply below_drew1 | refine below_set ?_ GE743.out) | exact HB.out)))); have n3_ := Aside0.mk (blk_below (g := gb743) (o := .cells #[.int .i64 a0_0, .int .i64 a0_1, .int .u64 a0_2, .string a0_3] 53 (0, 0)) (by (with_reducible repeat (first | refine blk_drewN ?_ _ | refine blk_drew ?_ | refine blk_alloc ?_ _)); exact BK743.out) hb); have n4_ := Aside0.mk (below_step (by repeat (first | (with_reducible first | exact HB.out | apply below_alloc | apply pw_below_drewN | apply below_drew1 | refine below_set ?_ GE743.out) | exact HB.out)) hb); clear HO748; clear HO752; clear BK743; clear HB; have HO748 := n0_; have HO752 := n1_; have HO756 := n2_; have BK743 := n3_; have HB := n4_; clear n0_ n1_ n2_ n3_ n4_; (try clear hb); (try clear hb2); (try clear hk); (try clear hi); (try clear ho0)))
        go_meet
        case rel => exact ⟨_, (t754), H', ⟨by have := HJ7.out; first | omega | exact Nat.le_refl _⟩, ⟨by (with_reducible repeat (first | apply Kd.R_alloc | apply Kd.R_drewN | apply Kd.R_drew)); exact Kd.R_mono HO752.out (fun _ hk => trivial)⟩, ⟨Kd.R_V (by (with_reducible repeat (first | apply Kd.R_alloc | apply Kd.R_drewN | apply Kd.R_drew)); exact Kd.R_mono (Kd.R_types HO756.out BK743.out (by decide)) (fun _ hk => ⟨hk.1.2, hk.2⟩))⟩, ⟨by (with_reducible repeat (first | refine blk_drewN ?_ _ | refine blk_drew ?_ | refine blk_alloc ?_ _)); exact BK743.out⟩, ⟨by repeat (first | (with_reducible first | exact HB.out | apply below_alloc | apply pw_below_drewN | apply below_drew1 | refine below_set ?_ GE743.out) | exact HB.out)⟩⟩
       ·rw [if_neg c29] at H
        have c29b0 : (a0_1 == t753) = false := beq_eq_false_iff_ne.mpr c29
        have c29b1 : (a0_1 != t753) = true := bne_iff_ne.mpr c29
        (first | rw [c29b0] | (simp only [i64_w, i32_w]; rw [c29b0]) | skip)
        replace H := Option.bind_eq_some_iff.mp H
        obtain ⟨t757, A330, H⟩ := H
        replace H : (if a0_1 = t757 then ((varint_Zig.f (wrap64 (a0_2))).bind fun t758 => ((varint_Put.f kj7 ([] : List Int) t758).bind fun t759 => (stratumlaw05_TlvField.j1 kj7 t749 t750 t759 a0_0 a0_1 a0_2 a0_3))) else ((kind_Bool.f).bind fun t762 => (if a0_1 = t762 then (stratumlaw05_TlvField.j1 kj7 t749 t750 (([(a0_2) % 256] : List Int)) a0_0 a0_1 a0_2 a0_3) else (if a0_3.size ≤ 9223372036854775807 then (stratumlaw05_TlvField.j1 kj7 t749 t750 (bytesOf a0_3) a0_0 a0_1 a0_2 a0_3) else (none))))) = some r := H
        have A33 := Aside0.mk A330
        clear A330
        by_cases c34 : a0_1 = t757
        ·rw [if_pos c34] at H
         have c34b0 : (a0_1 == t757) = true := beq_iff_eq.mpr c34
         have c34b1 : (a0_1 != t757) = false := bne_eq_false_iff_eq.mpr c34
         clear c34
         replace H := Option.bind_eq_some_iff.mp H
         obtain ⟨t758, A350, H⟩ := H
         replace H : ((varint_Put.f kj7 ([] : List Int) t758).bind fun t759 => (stratumlaw05_TlvField.j1 kj7 t749 t750 t759 a0_0 a0_1 a0_2 a0_3)) = some r := H
         have A35 := Aside0.mk A350
         clear A350
         replace H := Option.bind_eq_some_iff.mp H
         obtain ⟨t759, A360, H⟩ := H
         replace H : (stratumlaw05_TlvField.j1 kj7 t749 t750 t759 a0_0 a0_1 a0_2 a0_3) = some r := H
         have A36 := Aside0.mk A360
         clear A360
         have H' := Aside0.mk H
         clear H
         go_wp2_with (first | ((with_reducible refine gate_callee (f := 43) rfl ?_); refine goesL_ (some 46) rfl rfl Try.func43 (by kernel_rfl) rfl #[] rfl (by (try simp only [List.map_toArray, List.map_cons, List.map_nil]); first | done | rfl | (simp only [List.length_drop, List.length_take]; rfl)) ?_; (with_reducible refine (kind_Uint.calls  t753 _ A28.out).mono ?_); rintro e w' ⟨rfl, ⟨nd, rfl⟩⟩; refine ⟨_, rfl, ?_⟩) | ((with_reducible refine gate_callee (f := 45) rfl ?_); refine goesL_ (some 53) rfl rfl Try.func45 (by kernel_rfl) rfl #[] rfl (by (try simp only [List.map_toArray, List.map_cons, List.map_nil]); first | done | rfl | (simp only [List.length_drop, List.length_take]; rfl)) ?_; (with_reducible refine (kind_Int.calls  t757 _ A33.out).mono ?_); rintro e w' ⟨rfl, ⟨nd, rfl⟩⟩; refine ⟨_, rfl, ?_⟩; have hcz37_0 : w26.cell? ⟨gb743, 0, none⟩ = some (.int .i64 a0_0) := (blk_cell BK743.out 0).trans rfl; have hcz37_1 : w26.cell? ⟨gb743, 1, none⟩ = some (.int .i64 a0_1) := (blk_cell BK743.out 1).trans rfl; have hcz37_2 : w26.cell? ⟨gb743, 2, none⟩ = some (.int .u64 a0_2) := (blk_cell BK743.out 2).trans rfl; have hcz37_3 : w26.cell? ⟨gb743, 3, none⟩ = some (.string a0_3) := (blk_cell BK743.out 3).trans rfl; have hfz37_0 := blk_frozen BK743.out 0; have hfz37_1 := blk_frozen BK743.out 1; have hfz37_2 := blk_frozen BK743.out 2; have hfz37_3 := blk_frozen BK743.out 3) | ((with_reducible refine gate_callee (f := 46) rfl ?_); refine goesL_ (some 59) rfl rfl Try.func46 (by kernel_rfl) rfl #[.int .i64 (wrap64 (a0_2))] rfl (by (try simp only [List.map_toArray, List.map_cons, List.map_nil]); first | done | rfl | (simp only [List.length_drop, List.length_take]; rfl)) ?_; (with_reducible refine (varint_Zig.calls (wrap64 (a0_2)) t758 _ A35.out).mono ?_); rintro e w' ⟨rfl, ⟨nd, rfl⟩⟩; refine ⟨_, rfl, ?_⟩) | ((with_reducible refine gate_callee (f := 44) rfl ?_); refine goesL_ (some 60) rfl rfl Try.func44 (by kernel_rfl) rfl #[.slice none 0 0, .int .u64 t758] rfl (by (try simp only [List.map_toArray, List.map_cons, List.map_nil]); first | done | rfl | (simp only [List.length_drop, List.length_take]; rfl)) ?_; (refine (varint_Put.calls kj7 _ _ ([] : List Int) t758 t759 _ ?side1 ?side2 A36.out).mono ?_); (case side1 => exact Kd.C_nil _ _); (case side2 => exact Nat.le_refl _); rintro e w38 ⟨v760, rfl, ho0, hb⟩; refine ⟨_, rfl, ?_⟩; have n0_ := Aside0.mk (Kd.R_below (by (with_reducible repeat (first | apply Kd.R_alloc | apply Kd.R_drewN | apply Kd.R_drew)); exact HO748.out) hb); have n1_ := Aside0.mk (Kd.R_elder' (by (with_reducible repeat (first | apply Kd.R_alloc | apply Kd.R_drewN | apply Kd.R_drew)); exact HO752.out) (Kd.R_base ho0) hb); have n2_ := Aside0.mk (Kd.R_lower (Kd.R_new' ho0 (Kd.R_lt (by (with_reducible repeat (first | apply Kd.R_alloc | apply Kd.R_drewN | apply Kd.R_drew)); exact HO752.out))) (below_size (by repeat (first | (with_reducible first | exact HB.out | apply below_alloc | apply pw_below_drewN | apply below_drew1 | refine below_set ?_ GE743.out) | exact HB.out)))); have n3_ := Aside0.mk (blk_below (g := gb743) (o := .cells #[.int .i64 a0_0, .int .i64 a0_1, .int .u64 a0_2, .string a0_3] 53 (0, 0)) (by (with_reducible repeat (first | refine blk_drewN ?_ _ | refine blk_drew ?_ | refine blk_alloc ?_ _)); exact BK743.out) hb); have n4_ := Aside0.mk (below_step (by repeat (first | (with_reducible first | exact HB.out | apply below_alloc | apply pw_below_drewN | apply below_drew1 | refine below_set ?_ GE743.out) | exact HB.out)) hb); clear HO748; clear HO752; clear BK743; clear HB; have HO748 := n0_; have HO752 := n1_; have HO761 := n2_; have BK743 := n3_; have HB := n4_; clear n0_ n1_ n2_ n3_ n4_; (try clear hb); (try clear hb2); (try clear hk); (try clear hi); (try clear ho0)))
         go_meet
         case rel => exact ⟨_, (t759), H', ⟨by have := HJ7.out; first | omega | exact Nat.le_refl _⟩, ⟨by (with_reducible repeat (first | apply Kd.R_alloc | apply Kd.R_drewN | apply Kd.R_drew)); exact Kd.R_mono HO752.out (fun _ hk => trivial)⟩, ⟨Kd.R_V (by (with_reducible repeat (first | apply Kd.R_alloc | apply Kd.R_drewN | apply Kd.R_drew)); exact Kd.R_mono (Kd.R_types HO761.out BK743.out (by decide)) (fun _ hk => ⟨hk.1.2, hk.2⟩))⟩, ⟨by (with_reducible repeat (first | refine blk_drewN ?_ _ | refine blk_drew ?_ | refine blk_alloc ?_ _)); exact BK743.out⟩, ⟨by repeat (first | (with_reducible first | exact HB.out | apply below_alloc | apply pw_below_drewN | apply below_drew1 | refine below_set ?_ GE743.out) | exact HB.out)⟩⟩
        ·rw [if_neg c34] at H
         have c34b0 : (a0_1 == t757) = false := beq_eq_false_iff_ne.mpr c34
         have c34b1 : (a0_1 != t757) = true := bne_iff_ne.mpr c34
         replace H := Option.bind_eq_some_iff.mp H
         obtain ⟨t762, A390, H⟩ := H
         replace H : (if a0_1 = t762 then (stratumlaw05_TlvField.j1 kj7 t749 t750 (([(a0_2) % 256] : List Int)) a0_0 a0_1 a0_2 a0_3) else (if a0_3.size ≤ 9223372036854775807 then (stratumlaw05_TlvField.j1 kj7 t749 t750 (bytesOf a0_3) a0_0 a0_1 a0_2 a0_3) else (none))) = some r := H
         have A39 := Aside0.mk A390
         clear A390
         by_cases c40 : a0_1 = t762
         ·rw [if_pos c40] at H
          have c40b0 : (a0_1 == t762) = true := beq_iff_eq.mpr c40
          have c40b1 : (a0_1 != t762) = false := bne_eq_false_iff_eq.mpr c40
          clear c40
          obtain ⟨y763, hy763⟩ : ∃ y_ : List Int, y_ = (([(a0_2) % 256] : List Int)) := ⟨_, rfl⟩
          replace H : (stratumlaw05_TlvField.j1 kj7 t749 t750 y763 a0_0 a0_1 a0_2 a0_3) = some r := by first | (rw [hy763]; with_reducible exact H) | (have H2_ := (Option.bind_some _ _).symm.trans H; rw [hy763]; with_reducible exact H2_) | (have H2_ := (Option.bind_some _ _).symm.trans H; with_reducible exact H2_) | with_reducible exact H | (rw [hy763]; exact H) | exact H
          have Ny763 := Aside0.mk hy763
          clear hy763
          have H' := Aside0.mk H
          clear H
          go_wp2_with (first | ((with_reducible refine gate_callee (f := 43) rfl ?_); refine goesL_ (some 46) rfl rfl Try.func43 (by kernel_rfl) rfl #[] rfl (by (try simp only [List.map_toArray, List.map_cons, List.map_nil]); first | done | rfl | (simp only [List.length_drop, List.length_take]; rfl)) ?_; (with_reducible refine (kind_Uint.calls  t753 _ A28.out).mono ?_); rintro e w' ⟨rfl, ⟨nd, rfl⟩⟩; refine ⟨_, rfl, ?_⟩) | ((with_reducible refine gate_callee (f := 45) rfl ?_); refine goesL_ (some 53) rfl rfl Try.func45 (by kernel_rfl) rfl #[] rfl (by (try simp only [List.map_toArray, List.map_cons, List.map_nil]); first | done | rfl | (simp only [List.length_drop, List.length_take]; rfl)) ?_; (with_reducible refine (kind_Int.calls  t757 _ A33.out).mono ?_); rintro e w' ⟨rfl, ⟨nd, rfl⟩⟩; refine ⟨_, rfl, ?_⟩) | ((with_reducible refine gate_callee (f := 47) rfl ?_); refine goesL_ (some 62) rfl rfl Try.func47 (by kernel_rfl) rfl #[] rfl (by (try simp only [List.map_toArray, List.map_cons, List.map_nil]); first | done | rfl | (simp only [List.length_drop, List.length_take]; rfl)) ?_; (with_reducible refine (kind_Bool.calls  t762 _ A39.out).mono ?_); rintro e w' ⟨rfl, ⟨nd, rfl⟩⟩; refine ⟨_, rfl, ?_⟩; have hcz41_0 : w26.cell? ⟨gb743, 0, none⟩ = some (.int .i64 a0_0) := (blk_cell BK743.out 0).trans rfl; have hcz41_1 : w26.cell? ⟨gb743, 1, none⟩ = some (.int .i64 a0_1) := (blk_cell BK743.out 1).trans rfl; have hcz41_2 : w26.cell? ⟨gb743, 2, none⟩ = some (.int .u64 a0_2) := (blk_cell BK743.out 2).trans rfl; have hcz41_3 : w26.cell? ⟨gb743, 3, none⟩ = some (.string a0_3) := (blk_cell BK743.out 3).trans rfl; have hfz41_0 := blk_frozen BK743.out 0; have hfz41_1 := blk_frozen BK743.out 1; have hfz41_2 := blk_frozen BK743.out 2; have hfz41_3 := blk_frozen BK743.out 3) | ((with_reducible refine gate_dst (N := 68) rfl ?_); (try (refine gate_guard (by rfl) ?_; dsimp only)); refine Kd.R_lit (Kd.int .u8) _ 5 ?hg (N := 68) ?hd (xs := ([(a0_2) % 256] : List Int)) (inner := [.int .u8 ((a0_2) % 256)]) (ok := fun _ => True) (okp := fun _ => True) ?hr ?hp (fun _ hk => hk) trivial (Below.refl _ _) (Nat.le_refl _) (by simp) ?_; (case hd => rfl); (case hg => rfl); (case hr => first | (go_simp; done) | (go_simp; rfl)); (case hp => exact (Reps.one (show Kd.M (Kd.int .u8) _ _ _ ((a0_2) % 256) [.int .u8 ((a0_2) % 256)] from rfl) (Reps.none _ _))); intro v764 w42 ho43 hb hg_ hnew_; clear hg_ hnew_; (first | rw [← Ny763.out] at ho43 | (simp only [Int.reduceToNat] at ho43; rw [← Ny763.out] at ho43)); have n0_ := Aside0.mk (Kd.R_below (by (with_reducible repeat (first | apply Kd.R_alloc | apply Kd.R_drewN | apply Kd.R_drew)); exact HO748.out) hb); have n1_ := Aside0.mk (Kd.R_elder' (by (with_reducible repeat (first | apply Kd.R_alloc | apply Kd.R_drewN | apply Kd.R_drew)); exact HO752.out) (Kd.R_base ho43) hb); have n2_ := Aside0.mk (Kd.R_lower (Kd.R_new' ho43 (Kd.R_lt (by (with_reducible repeat (first | apply Kd.R_alloc | apply Kd.R_drewN | apply Kd.R_drew)); exact HO752.out))) (below_size (by repeat (first | (with_reducible first | exact HB.out | apply below_alloc | apply pw_below_drewN | apply below_drew1 | refine below_set ?_ GE743.out) | exact HB.out)))); have n3_ := Aside0.mk (blk_below (g := gb743) (o := .cells #[.int .i64 a0_0, .int .i64 a0_1, .int .u64 a0_2, .string a0_3] 53 (0, 0)) (by (with_reducible repeat (first | refine blk_drewN ?_ _ | refine blk_drew ?_ | refine blk_alloc ?_ _)); exact BK743.out) hb); have n4_ := Aside0.mk (below_step (by repeat (first | (with_reducible first | exact HB.out | apply below_alloc | apply pw_below_drewN | apply below_drew1 | refine below_set ?_ GE743.out) | exact HB.out)) hb); clear HO748; clear HO752; clear BK743; clear HB; have HO748 := n0_; have HO752 := n1_; have HO765 := n2_; have BK743 := n3_; have HB := n4_; clear n0_ n1_ n2_ n3_ n4_; clear hb ho43))
          go_meet
          case rel => exact ⟨_, (y763), H', ⟨by have := HJ7.out; first | omega | exact Nat.le_refl _⟩, ⟨by (with_reducible repeat (first | apply Kd.R_alloc | apply Kd.R_drewN | apply Kd.R_drew)); exact Kd.R_mono HO752.out (fun _ hk => trivial)⟩, ⟨Kd.R_V (by (with_reducible repeat (first | apply Kd.R_alloc | apply Kd.R_drewN | apply Kd.R_drew)); exact Kd.R_mono (Kd.R_types HO765.out BK743.out (by decide)) (fun _ hk => ⟨hk.1.2, hk.2⟩))⟩, ⟨by (with_reducible repeat (first | refine blk_drewN ?_ _ | refine blk_drew ?_ | refine blk_alloc ?_ _)); exact BK743.out⟩, ⟨by repeat (first | (with_reducible first | exact HB.out | apply below_alloc | apply pw_below_drewN | apply below_drew1 | refine below_set ?_ GE743.out) | exact HB.out)⟩⟩
         ·rw [if_neg c40] at H
          have c40b0 : (a0_1 == t762) = false := beq_eq_false_iff_ne.mpr c40
          have c40b1 : (a0_1 != t762) = true := bne_iff_ne.mpr c40
          by_cases c44 : a0_3.size ≤ 9223372036854775807
          ·rw [if_pos c44] at H
           have c44b0 := eq_true c44
           have c44b1 : decide (a0_3.size ≤ 9223372036854775807) = true := decide_eq_true c44
           try have c44b2 : (9223372036854775807 < a0_3.size) = False := eq_false (Nat.not_lt.2 c44)
           clear c44
           obtain ⟨y766, hy766⟩ : ∃ y_ : List Int, y_ = (bytesOf a0_3) := ⟨_, rfl⟩
           replace H : (stratumlaw05_TlvField.j1 kj7 t749 t750 y766 a0_0 a0_1 a0_2 a0_3) = some r := by first | (rw [hy766]; with_reducible exact H) | (have H2_ := (Option.bind_some _ _).symm.trans H; rw [hy766]; with_reducible exact H2_) | (have H2_ := (Option.bind_some _ _).symm.trans H; with_reducible exact H2_) | with_reducible exact H | (rw [hy766]; exact H) | exact H
           have Ny766 := Aside0.mk hy766
           clear hy766
           have H' := Aside0.mk H
           clear H
           go_wp2_with (first | ((with_reducible refine gate_callee (f := 43) rfl ?_); refine goesL_ (some 46) rfl rfl Try.func43 (by kernel_rfl) rfl #[] rfl (by (try simp only [List.map_toArray, List.map_cons, List.map_nil]); first | done | rfl | (simp only [List.length_drop, List.length_take]; rfl)) ?_; (with_reducible refine (kind_Uint.calls  t753 _ A28.out).mono ?_); rintro e w' ⟨rfl, ⟨nd, rfl⟩⟩; refine ⟨_, rfl, ?_⟩) | ((with_reducible refine gate_callee (f := 45) rfl ?_); refine goesL_ (some 53) rfl rfl Try.func45 (by kernel_rfl) rfl #[] rfl (by (try simp only [List.map_toArray, List.map_cons, List.map_nil]); first | done | rfl | (simp only [List.length_drop, List.length_take]; rfl)) ?_; (with_reducible refine (kind_Int.calls  t757 _ A33.out).mono ?_); rintro e w' ⟨rfl, ⟨nd, rfl⟩⟩; refine ⟨_, rfl, ?_⟩) | ((with_reducible refine gate_callee (f := 47) rfl ?_); refine goesL_ (some 62) rfl rfl Try.func47 (by kernel_rfl) rfl #[] rfl (by (try simp only [List.map_toArray, List.map_cons, List.map_nil]); first | done | rfl | (simp only [List.length_drop, List.length_take]; rfl)) ?_; (with_reducible refine (kind_Bool.calls  t762 _ A39.out).mono ?_); rintro e w' ⟨rfl, ⟨nd, rfl⟩⟩; refine ⟨_, rfl, ?_⟩; have hcz45_0 : w26.cell? ⟨gb743, 0, none⟩ = some (.int .i64 a0_0) := (blk_cell BK743.out 0).trans rfl; have hcz45_1 : w26.cell? ⟨gb743, 1, none⟩ = some (.int .i64 a0_1) := (blk_cell BK743.out 1).trans rfl; have hcz45_2 : w26.cell? ⟨gb743, 2, none⟩ = some (.int .u64 a0_2) := (blk_cell BK743.out 2).trans rfl; have hcz45_3 : w26.cell? ⟨gb743, 3, none⟩ = some (.string a0_3) := (blk_cell BK743.out 3).trans rfl; have hfz45_0 := blk_frozen BK743.out 0; have hfz45_1 := blk_frozen BK743.out 1; have hfz45_2 := blk_frozen BK743.out 2; have hfz45_3 := blk_frozen BK743.out 3) | ((with_reducible refine gate_dst (N := 44) rfl ?_); (try (refine gate_guard (by rfl) ?_; dsimp only)); refine vx_bytes (Kd.int .u8) rfl _ 5 rfl (N := 44) rfl 9 63 _ rfl a0_3 rfl Try.underlying9 Try.underlying63 Try.underlying5 (of_decide_eq_true (by first | (with_reducible assumption) | assumption)) (ok := fun k_ => w26.heap.size ≤ k_) (fun _ hk => hk) (Below.refl _ _) (Nat.le_refl _) ?_; intro v767 w46 ho47 hb hg_ hnew_; clear hg_ hnew_; (first | rw [← Ny766.out] at ho47 | (simp only [Int.reduceToNat] at ho47; rw [← Ny766.out] at ho47)); have n0_ := Aside0.mk (Kd.R_below (by (with_reducible repeat (first | apply Kd.R_alloc | apply Kd.R_drewN | apply Kd.R_drew)); exact HO748.out) hb); have n1_ := Aside0.mk (Kd.R_below (by (with_reducible repeat (first | apply Kd.R_alloc | apply Kd.R_drewN | apply Kd.R_drew)); exact HO752.out) hb); have n2_ := Aside0.mk (Kd.V_lower (Kd.V_mono (ok' := fun k_ => some k_ ≠ (.slice Ao25 y746.length co25 : Value).ownBlock ∧ some k_ ≠ (v751 : Value).ownBlock ∧ k_ ≠ gb743) ho47 (fun k_ hk_ => ⟨(Kd.fresh' (Kd.R_lt (by (with_reducible repeat (first | apply Kd.R_alloc | apply Kd.R_drewN | apply Kd.R_drew)); exact HO748.out)) k_ hk_), (Kd.fresh' (Kd.R_lt (by (with_reducible repeat (first | apply Kd.R_alloc | apply Kd.R_drewN | apply Kd.R_drew)); exact HO752.out)) k_ hk_), (Kd.freshB (g := gb743) (o := .cells #[.int .i64 a0_0, .int .i64 a0_1, .int .u64 a0_2, .string a0_3] 53 (0, 0)) (by (with_reducible repeat (first | refine blk_drewN ?_ _ | refine blk_drew ?_ | refine blk_alloc ?_ _)); exact BK743.out) k_ hk_)⟩)) (below_size (by repeat (first | (with_reducible first | exact HB.out | apply below_alloc | apply pw_below_drewN | apply below_drew1 | refine below_set ?_ GE743.out) | exact HB.out)))); have n3_ := Aside0.mk (blk_below (g := gb743) (o := .cells #[.int .i64 a0_0, .int .i64 a0_1, .int .u64 a0_2, .string a0_3] 53 (0, 0)) (by (with_reducible repeat (first | refine blk_drewN ?_ _ | refine blk_drew ?_ | refine blk_alloc ?_ _)); exact BK743.out) hb); have n4_ := Aside0.mk (below_step (by repeat (first | (with_reducible first | exact HB.out | apply below_alloc | apply pw_below_drewN | apply below_drew1 | refine below_set ?_ GE743.out) | exact HB.out)) hb); clear HO748; clear HO752; clear BK743; clear HB; have HO748 := n0_; have HO752 := n1_; have HO768 := n2_; have BK743 := n3_; have HB := n4_; clear n0_ n1_ n2_ n3_ n4_; clear hb ho47))
           go_meet
           case rel => exact ⟨_, (y766), H', ⟨by have := HJ7.out; first | omega | exact Nat.le_refl _⟩, ⟨by (with_reducible repeat (first | apply Kd.R_alloc | apply Kd.R_drewN | apply Kd.R_drew)); exact HO752.out⟩, ⟨by (with_reducible repeat (first | apply Kd.V_alloc | apply Kd.V_drewN | apply Kd.V_drew)); exact Kd.V_mono HO768.out (fun _ hk => ⟨hk.2.1, hk.2.2⟩)⟩, ⟨by (with_reducible repeat (first | refine blk_drewN ?_ _ | refine blk_drew ?_ | refine blk_alloc ?_ _)); exact BK743.out⟩, ⟨by repeat (first | (with_reducible first | exact HB.out | apply below_alloc | apply pw_below_drewN | apply below_drew1 | refine below_set ?_ GE743.out) | exact HB.out)⟩⟩
          ·rw [if_neg c44] at H
           exact absurd H (by simp)
      case rest =>
       clear HC21
       try clear c1
       try clear c2
       try clear p2
       try clear c3
       try clear c4
       try clear c4b0
       try clear c4b1
       try clear p6
       try clear c12
       try clear c12b0
       try clear c13
       try clear c13b0
       try clear c14
       try clear c20
       try clear c29
       try clear c29b0
       try clear c29b1
       try clear c30
       try clear c34
       try clear c34b0
       try clear c34b1
       try clear c35
       try clear c40
       try clear c40b0
       try clear c40b1
       try clear c43
       try clear c44
       try clear c44b0
       try clear c44b1
       try clear c44b2
       try clear c45
       try clear c46
       try clear c47
       try clear hcz11_0
       try clear hcz11_1
       try clear hcz11_2
       try clear hcz11_3
       try clear hcz15_0
       try clear hcz15_1
       try clear hcz15_2
       try clear hcz15_3
       try clear hcz17_0
       try clear hcz17_1
       try clear hcz17_2
       try clear hcz17_3
       try clear hcz18_0
       try clear hcz18_1
       try clear hcz18_2
       try clear hcz18_3
       try clear hcz22_0
       try clear hcz22_1
       try clear hcz22_2
       try clear hcz22_3
       try clear hcz27_0
       try clear hcz27_1
       try clear hcz27_2
       try clear hcz27_3
       try clear hcz31_0
       try clear hcz31_1
       try clear hcz31_2
       try clear hcz31_3
       try clear hcz37_0
       try clear hcz37_1
       try clear hcz37_2
       try clear hcz37_3
       try clear hcz41_0
       try clear hcz41_1
       try clear hcz41_2
       try clear hcz41_3
       try clear hcz45_0
       try clear hcz45_1
       try clear hcz45_2
       try clear hcz45_3
       try clear hcz7_0
       try clear hcz7_1
       try clear hcz7_2
       try clear hcz7_3
       try clear hfz11_0
       try clear hfz11_1
       try clear hfz11_2
       try clear hfz11_3
       try clear hfz15_0
       try clear hfz15_1
       try clear hfz15_2
       try clear hfz15_3
       try clear hfz17_0
       try clear hfz17_1
       try clear hfz17_2
       try clear hfz17_3
       try clear hfz18_0
       try clear hfz18_1
       try clear hfz18_2
       try clear hfz18_3
       try clear hfz22_0
       try clear hfz22_1
       try clear hfz22_2
       try clear hfz22_3
       try clear hfz27_0
       try clear hfz27_1
       try clear hfz27_2
       try clear hfz27_3
       try clear hfz31_0
       try clear hfz31_1
       try clear hfz31_2
       try clear hfz31_3
       try clear hfz37_0
       try clear hfz37_1
       try clear hfz37_2
       try clear hfz37_3
       try clear hfz41_0
       try clear hfz41_1
       try clear hfz41_2
       try clear hfz41_3
       try clear hfz45_0
       try clear hfz45_1
       try clear hfz45_2
       try clear hfz45_3
       try clear hfz7_0
       try clear hfz7_1
       try clear hfz7_2
       try clear hfz7_3
       try clear p2
       obtain ⟨kq, x6_20, HA, HJ20, HO_4, HO_6, BK743, HB⟩ := hcut
       cases kq with
       | zero => exact absurd HA.out (by simp [stratumlaw05_TlvField.j1])
       | succ kj20 =>
        have H := HA.out
        clear HA
        simp only [stratumlaw05_TlvField.j1] at H
        replace H := Option.bind_eq_some_iff.mp H
        obtain ⟨t769, A480, H⟩ := H
        replace H : ((varint_Put.f kj20 t769 (IntKind.u64.wrap ((x6_20.length : Int)))).bind fun t772 => (if (wrap64 ((t772.length : Int) + (x6_20.length : Int))) > 16777215 then (if t750 = 2 then (some ((t749.length : Int) == 0)) else (some false)) else (if t750 = 0 then (if (strOfNums t772).size + (strOfNums x6_20).size ≤ 9223372036854775807 then (some ((strOfNums t749).toList == ((strOfNums t772) ++ (strOfNums x6_20)).toList)) else (none)) else (some false)))) = some r := H
        have A48 := Aside0.mk A480
        clear A480
        replace H := Option.bind_eq_some_iff.mp H
        obtain ⟨t772, A490, H⟩ := H
        replace H : (if (wrap64 ((t772.length : Int) + (x6_20.length : Int))) > 16777215 then (if t750 = 2 then (some ((t749.length : Int) == 0)) else (some false)) else (if t750 = 0 then (if (strOfNums t772).size + (strOfNums x6_20).size ≤ 9223372036854775807 then (some ((strOfNums t749).toList == ((strOfNums t772) ++ (strOfNums x6_20)).toList)) else (none)) else (some false))) = some r := H
        have A49 := Aside0.mk A490
        clear A490
        by_cases c50 : (wrap64 ((t772.length : Int) + (x6_20.length : Int))) > 16777215
        ·rw [if_pos c50] at H
         have c50b0 : decide (16777215 < (wrap64 ((t772.length : Int) + (x6_20.length : Int)))) = true := decide_eq_true c50
         clear c50
         by_cases c51 : t750 = 2
         ·rw [if_pos c51] at H
          have c51b0 : (t750 == 2) = true := beq_iff_eq.mpr c51
          have c51b1 : (t750 != 2) = false := bne_eq_false_iff_eq.mpr c51
          clear c51
          obtain rfl := Option.some.inj H
          have hcz52_0 : wc.cell? ⟨gb743, 0, none⟩ = some (.int .i64 a0_0) := (blk_cell BK743.out 0).trans rfl
          have hcz52_1 : wc.cell? ⟨gb743, 1, none⟩ = some (.int .i64 a0_1) := (blk_cell BK743.out 1).trans rfl
          have hcz52_2 : wc.cell? ⟨gb743, 2, none⟩ = some (.int .u64 a0_2) := (blk_cell BK743.out 2).trans rfl
          have hcz52_3 : wc.cell? ⟨gb743, 3, none⟩ = some (.string a0_3) := (blk_cell BK743.out 3).trans rfl
          have hfz52_0 := blk_frozen BK743.out 0
          have hfz52_1 := blk_frozen BK743.out 1
          have hfz52_2 := blk_frozen BK743.out 2
          have hfz52_3 := blk_frozen BK743.out 3
          go_wp2_with (first | ((with_reducible refine gate_callee (f := 44) rfl ?_); refine goesL_ (some 78) rfl rfl Try.func44 (by kernel_rfl) rfl #[.slice none 0 0, .int .u64 (IntKind.u64.wrap ((IntKind.u64.wrap (8 * (IntKind.u64.wrap (a0_0)))) + (IntKind.u64.wrap (a0_1))))] rfl (by (try simp only [List.map_toArray, List.map_cons, List.map_nil]); first | done | rfl | (simp only [List.length_drop, List.length_take]; rfl)) ?_; (refine (varint_Put.calls kj20 _ _ ([] : List Int) (IntKind.u64.wrap ((IntKind.u64.wrap (8 * (IntKind.u64.wrap (a0_0)))) + (IntKind.u64.wrap (a0_1)))) t769 _ ?side1 ?side2 A48.out).mono ?_); (case side1 => exact Kd.C_nil _ _); (case side2 => exact Nat.le_refl _); rintro e w53 ⟨v770, rfl, ho0, hb⟩; refine ⟨_, rfl, ?_⟩; have n0_ := Aside0.mk (Kd.R_elder' (by (with_reducible repeat (first | apply Kd.R_alloc | apply Kd.R_drewN | apply Kd.R_drew)); exact HO_4.out) (Kd.R_base ho0) hb); have n1_ := Aside0.mk (Kd.V_elder' (by (with_reducible repeat (first | apply Kd.V_alloc | apply Kd.V_drewN | apply Kd.V_drew)); exact HO_6.out) (Kd.R_base ho0) hb); have n2_ := Aside0.mk (Kd.R_lower (Kd.R_new' ho0 (Kd.R_lt (by (with_reducible repeat (first | apply Kd.R_alloc | apply Kd.R_drewN | apply Kd.R_drew)); exact HO_4.out))) (below_size (by repeat (first | (with_reducible first | exact HB.out | apply below_alloc | apply pw_below_drewN | apply below_drew1 | refine below_set ?_ GE743.out) | exact HB.out)))); have n3_ := Aside0.mk (blk_below (g := gb743) (o := .cells #[.int .i64 a0_0, .int .i64 a0_1, .int .u64 a0_2, .string a0_3] 53 (0, 0)) (by (with_reducible repeat (first | refine blk_drewN ?_ _ | refine blk_drew ?_ | refine blk_alloc ?_ _)); exact BK743.out) hb); have n4_ := Aside0.mk (below_step (by repeat (first | (with_reducible first | exact HB.out | apply below_alloc | apply pw_below_drewN | apply below_drew1 | refine below_set ?_ GE743.out) | exact HB.out)) hb); clear HO_4; clear HO_6; clear BK743; clear HB; have HO_4 := n0_; have HO_6 := n1_; have HO771 := n2_; have BK743 := n3_; have HB := n4_; clear n0_ n1_ n2_ n3_ n4_; (try clear hb); (try clear hb2); (try clear hk); (try clear hi); (try clear ho0); obtain ⟨Ao54, co54, eo54⟩ := Kd.V_slice HO_6.out; subst eo54; obtain ⟨Ao55, co55, eo55⟩ := Kd.R_slice HO771.out; subst eo55) | ((with_reducible refine gate_callee (f := 44) rfl ?_); refine goesL_ (some 82) rfl rfl Try.func44 (by kernel_rfl) rfl #[.slice Ao55 t769.length co55, .int .u64 (IntKind.u64.wrap ((x6_20.length : Int)))] rfl (by (try simp only [List.map_toArray, List.map_cons, List.map_nil]); first | done | rfl | (simp only [List.length_drop, List.length_take]; rfl)) ?_; (with_reducible refine (varint_Put.calls kj20 _ _ t769 (IntKind.u64.wrap ((x6_20.length : Int))) t772 _ ?side1 ?side2 A49.out).mono ?_); (case side1 => repeat (first | exact (Kd.R_reads' HO771.out).2.2 | (with_reducible refine Kd.C_alloc ?_ _) | (with_reducible refine Kd.C_drewN ?_ _) | (with_reducible refine Kd.C_drew ?_))); (case side2 => exact (Kd.R_reads' HO771.out).2.1); rintro e w56 ⟨v773, rfl, ho0, hb⟩; refine ⟨_, rfl, ?_⟩; have n0_ := Aside0.mk (Kd.R_elder' (by (with_reducible repeat (first | apply Kd.R_alloc | apply Kd.R_drewN | apply Kd.R_drew)); exact HO_4.out) (Kd.R_base ho0) hb); have n1_ := Aside0.mk (Kd.V_elder' (by (with_reducible repeat (first | apply Kd.V_alloc | apply Kd.V_drewN | apply Kd.V_drew)); exact HO_6.out) (Kd.R_base ho0) hb); have n2_ := Aside0.mk (Kd.R_elder' (by (with_reducible repeat (first | apply Kd.R_alloc | apply Kd.R_drewN | apply Kd.R_drew)); exact HO771.out) (Kd.R_base ho0) hb); have n3_ := Aside0.mk (Kd.R_lower (Kd.R_new' (Kd.R_new' ho0 (Kd.R_lt (by (with_reducible repeat (first | apply Kd.R_alloc | apply Kd.R_drewN | apply Kd.R_drew)); exact HO_4.out))) (Kd.R_lt (by (with_reducible repeat (first | apply Kd.R_alloc | apply Kd.R_drewN | apply Kd.R_drew)); exact HO771.out))) (below_size (by repeat (first | (with_reducible first | exact HB.out | apply below_alloc | apply pw_below_drewN | apply below_drew1 | refine below_set ?_ GE743.out) | exact HB.out)))); have n4_ := Aside0.mk (blk_below (g := gb743) (o := .cells #[.int .i64 a0_0, .int .i64 a0_1, .int .u64 a0_2, .string a0_3] 53 (0, 0)) (by (with_reducible repeat (first | refine blk_drewN ?_ _ | refine blk_drew ?_ | refine blk_alloc ?_ _)); exact BK743.out) hb); have n5_ := Aside0.mk (below_step (by repeat (first | (with_reducible first | exact HB.out | apply below_alloc | apply pw_below_drewN | apply below_drew1 | refine below_set ?_ GE743.out) | exact HB.out)) hb); clear HO_4; clear HO_6; clear HO771; clear BK743; clear HB; have HO_4 := n0_; have HO_6 := n1_; have HO771 := n2_; have HO774 := n3_; have BK743 := n4_; have HB := n5_; clear n0_ n1_ n2_ n3_ n4_ n5_; (try clear hb); (try clear hb2); (try clear hk); (try clear hi); (try clear ho0); obtain ⟨Ao57, co57, eo57⟩ := Kd.R_slice HO774.out; subst eo57; obtain ⟨Ao58, co58, eo58⟩ := Kd.R_slice HO_4.out; subst eo58))
          go_ret
          exact ⟨by first | rfl | (simp [errW_none, errW_some] <;> rfl) | (simp [*, errW_none, errW_some] <;> rfl), by repeat (first | (with_reducible first | exact HB.out | apply below_alloc | apply pw_below_drewN | apply below_drew1 | refine below_set ?_ GE743.out) | exact HB.out)⟩
         ·rw [if_neg c51] at H
          have c51b0 : (t750 == 2) = false := beq_eq_false_iff_ne.mpr c51
          have c51b1 : (t750 != 2) = true := bne_iff_ne.mpr c51
          exact absurd ((Option.some.inj H).trans hr_.out) (by simp)
        ·rw [if_neg c50] at H
         have c50b0 : decide (16777215 < (wrap64 ((t772.length : Int) + (x6_20.length : Int)))) = false := decide_eq_false c50
         clear c50
         by_cases c59 : t750 = 0
         ·rw [if_pos c59] at H
          have c59b0 : (t750 == 0) = true := beq_iff_eq.mpr c59
          have c59b1 : (t750 != 0) = false := bne_eq_false_iff_eq.mpr c59
          clear c59
          by_cases c60 : (strOfNums t772).size + (strOfNums x6_20).size ≤ 9223372036854775807
          ·rw [if_pos c60] at H
           have c60b0 := eq_true c60
           have c60b1 : decide ((strOfNums t772).size + (strOfNums x6_20).size ≤ 9223372036854775807) = true := decide_eq_true c60
           try have c60b2 : (9223372036854775807 < (strOfNums t772).size + (strOfNums x6_20).size) = False := eq_false (Nat.not_lt.2 c60)
           obtain rfl := Option.some.inj H
           have hcz61_0 : wc.cell? ⟨gb743, 0, none⟩ = some (.int .i64 a0_0) := (blk_cell BK743.out 0).trans rfl
           have hcz61_1 : wc.cell? ⟨gb743, 1, none⟩ = some (.int .i64 a0_1) := (blk_cell BK743.out 1).trans rfl
           have hcz61_2 : wc.cell? ⟨gb743, 2, none⟩ = some (.int .u64 a0_2) := (blk_cell BK743.out 2).trans rfl
           have hcz61_3 : wc.cell? ⟨gb743, 3, none⟩ = some (.string a0_3) := (blk_cell BK743.out 3).trans rfl
           have hfz61_0 := blk_frozen BK743.out 0
           have hfz61_1 := blk_frozen BK743.out 1
           have hfz61_2 := blk_frozen BK743.out 2
           have hfz61_3 := blk_frozen BK743.out 3
           go_wp2_with (first | ((with_reducible refine gate_callee (f := 44) rfl ?_); refine goesL_ (some 78) rfl rfl Try.func44 (by kernel_rfl) rfl #[.slice none 0 0, .int .u64 (IntKind.u64.wrap ((IntKind.u64.wrap (8 * (IntKind.u64.wrap (a0_0)))) + (IntKind.u64.wrap (a0_1))))] rfl (by (try simp only [List.map_toArray, List.map_cons, List.map_nil]); first | done | rfl | (simp only [List.length_drop, List.length_take]; rfl)) ?_; (refine (varint_Put.calls kj20 _ _ ([] : List Int) (IntKind.u64.wrap ((IntKind.u64.wrap (8 * (IntKind.u64.wrap (a0_0)))) + (IntKind.u64.wrap (a0_1)))) t769 _ ?side1 ?side2 A48.out).mono ?_); (case side1 => exact Kd.C_nil _ _); (case side2 => exact Nat.le_refl _); rintro e w62 ⟨v770, rfl, ho0, hb⟩; refine ⟨_, rfl, ?_⟩; have n0_ := Aside0.mk (Kd.R_elder' (by (with_reducible repeat (first | apply Kd.R_alloc | apply Kd.R_drewN | apply Kd.R_drew)); exact HO_4.out) (Kd.R_base ho0) hb); have n1_ := Aside0.mk (Kd.V_elder' (by (with_reducible repeat (first | apply Kd.V_alloc | apply Kd.V_drewN | apply Kd.V_drew)); exact HO_6.out) (Kd.R_base ho0) hb); have n2_ := Aside0.mk (Kd.R_lower (Kd.R_new' ho0 (Kd.R_lt (by (with_reducible repeat (first | apply Kd.R_alloc | apply Kd.R_drewN | apply Kd.R_drew)); exact HO_4.out))) (below_size (by repeat (first | (with_reducible first | exact HB.out | apply below_alloc | apply pw_below_drewN | apply below_drew1 | refine below_set ?_ GE743.out) | exact HB.out)))); have n3_ := Aside0.mk (blk_below (g := gb743) (o := .cells #[.int .i64 a0_0, .int .i64 a0_1, .int .u64 a0_2, .string a0_3] 53 (0, 0)) (by (with_reducible repeat (first | refine blk_drewN ?_ _ | refine blk_drew ?_ | refine blk_alloc ?_ _)); exact BK743.out) hb); have n4_ := Aside0.mk (below_step (by repeat (first | (with_reducible first | exact HB.out | apply below_alloc | apply pw_below_drewN | apply below_drew1 | refine below_set ?_ GE743.out) | exact HB.out)) hb); clear HO_4; clear HO_6; clear BK743; clear HB; have HO_4 := n0_; have HO_6 := n1_; have HO771 := n2_; have BK743 := n3_; have HB := n4_; clear n0_ n1_ n2_ n3_ n4_; (try clear hb); (try clear hb2); (try clear hk); (try clear hi); (try clear ho0); obtain ⟨Ao63, co63, eo63⟩ := Kd.V_slice HO_6.out; subst eo63; obtain ⟨Ao64, co64, eo64⟩ := Kd.R_slice HO771.out; subst eo64) | ((with_reducible refine gate_callee (f := 44) rfl ?_); refine goesL_ (some 82) rfl rfl Try.func44 (by kernel_rfl) rfl #[.slice Ao64 t769.length co64, .int .u64 (IntKind.u64.wrap ((x6_20.length : Int)))] rfl (by (try simp only [List.map_toArray, List.map_cons, List.map_nil]); first | done | rfl | (simp only [List.length_drop, List.length_take]; rfl)) ?_; (with_reducible refine (varint_Put.calls kj20 _ _ t769 (IntKind.u64.wrap ((x6_20.length : Int))) t772 _ ?side1 ?side2 A49.out).mono ?_); (case side1 => repeat (first | exact (Kd.R_reads' HO771.out).2.2 | (with_reducible refine Kd.C_alloc ?_ _) | (with_reducible refine Kd.C_drewN ?_ _) | (with_reducible refine Kd.C_drew ?_))); (case side2 => exact (Kd.R_reads' HO771.out).2.1); rintro e w65 ⟨v773, rfl, ho0, hb⟩; refine ⟨_, rfl, ?_⟩; have n0_ := Aside0.mk (Kd.R_elder' (by (with_reducible repeat (first | apply Kd.R_alloc | apply Kd.R_drewN | apply Kd.R_drew)); exact HO_4.out) (Kd.R_base ho0) hb); have n1_ := Aside0.mk (Kd.V_elder' (by (with_reducible repeat (first | apply Kd.V_alloc | apply Kd.V_drewN | apply Kd.V_drew)); exact HO_6.out) (Kd.R_base ho0) hb); have n2_ := Aside0.mk (Kd.R_elder' (by (with_reducible repeat (first | apply Kd.R_alloc | apply Kd.R_drewN | apply Kd.R_drew)); exact HO771.out) (Kd.R_base ho0) hb); have n3_ := Aside0.mk (Kd.R_lower (Kd.R_new' (Kd.R_new' ho0 (Kd.R_lt (by (with_reducible repeat (first | apply Kd.R_alloc | apply Kd.R_drewN | apply Kd.R_drew)); exact HO_4.out))) (Kd.R_lt (by (with_reducible repeat (first | apply Kd.R_alloc | apply Kd.R_drewN | apply Kd.R_drew)); exact HO771.out))) (below_size (by repeat (first | (with_reducible first | exact HB.out | apply below_alloc | apply pw_below_drewN | apply below_drew1 | refine below_set ?_ GE743.out) | exact HB.out)))); have n4_ := Aside0.mk (blk_below (g := gb743) (o := .cells #[.int .i64 a0_0, .int .i64 a0_1, .int .u64 a0_2, .string a0_3] 53 (0, 0)) (by (with_reducible repeat (first | refine blk_drewN ?_ _ | refine blk_drew ?_ | refine blk_alloc ?_ _)); exact BK743.out) hb); have n5_ := Aside0.mk (below_step (by repeat (first | (with_reducible first | exact HB.out | apply below_alloc | apply pw_below_drewN | apply below_drew1 | refine below_set ?_ GE743.out) | exact HB.out)) hb); clear HO_4; clear HO_6; clear HO771; clear BK743; clear HB; have HO_4 := n0_; have HO_6 := n1_; have HO771 := n2_; have HO774 := n3_; have BK743 := n4_; have HB := n5_; clear n0_ n1_ n2_ n3_ n4_ n5_; (try clear hb); (try clear hb2); (try clear hk); (try clear hi); (try clear ho0); obtain ⟨Ao66, co66, eo66⟩ := Kd.R_slice HO774.out; subst eo66; have hcv67 := own_string (P := Try.prog) Try.underlying63 Try.underlying5 Try.underlying9 (Kd.own_of_R HO_4.out); have hcv68 := own_string (P := Try.prog) Try.underlying63 Try.underlying5 Try.underlying9 (Kd.own_of_R HO774.out); have hcv69 := Kd.C_string (P := Try.prog) (A := Ao63) (c := co63) Try.underlying63 Try.underlying5 Try.underlying9 (Kd.V_reads' HO_6.out).2.2))
           go_ret
           exact ⟨by first | rfl | (simp [errW_none, errW_some] <;> rfl) | (simp [*, errW_none, errW_some] <;> rfl), by repeat (first | (with_reducible first | exact HB.out | apply below_alloc | apply pw_below_drewN | apply below_drew1 | refine below_set ?_ GE743.out) | exact HB.out)⟩
          ·rw [if_neg c60] at H
           exact absurd H (by simp)
         ·rw [if_neg c59] at H
          have c59b0 : (t750 == 0) = false := beq_eq_false_iff_ne.mpr c59
          have c59b1 : (t750 != 0) = true := bne_iff_ne.mpr c59
          exact absurd ((Option.some.inj H).trans hr_.out) (by simp)
     ·replace c20 := Bool.eq_false_iff.mpr c20
      subst c20
      have H1 : (some (t750 == 1)) = some r := by rw [if_neg (show ¬ (false = true) by decide)] at H; exact H
      clear H
      have H := H1
      clear H1
      obtain rfl := Option.some.inj H
      have hcz70_0 : wc.cell? ⟨gb743, 0, none⟩ = some (.int .i64 a0_0) := (blk_cell BK743.out 0).trans rfl
      have hcz70_1 : wc.cell? ⟨gb743, 1, none⟩ = some (.int .i64 a0_1) := (blk_cell BK743.out 1).trans rfl
      have hcz70_2 : wc.cell? ⟨gb743, 2, none⟩ = some (.int .u64 a0_2) := (blk_cell BK743.out 2).trans rfl
      have hcz70_3 : wc.cell? ⟨gb743, 3, none⟩ = some (.string a0_3) := (blk_cell BK743.out 3).trans rfl
      have hfz70_0 := blk_frozen BK743.out 0
      have hfz70_1 := blk_frozen BK743.out 1
      have hfz70_2 := blk_frozen BK743.out 2
      have hfz70_3 := blk_frozen BK743.out 3
      go_wp2_with (first | ((with_reducible refine gate_dst (N := 30) rfl ?_); (try (refine gate_guard (by rfl) ?_; dsimp only)); refine Kd.R_lit k53 _ 53 ?hg (N := 30) ?hd (xs := ([(⟨a0_0, (⟨a0_1, a0_2, a0_3⟩ : S51)⟩ : S53)] : List (S53))) (inner := [.int .i64 a0_0, .int .i64 a0_1, .int .u64 a0_2, .string a0_3]) (ok := fun _ => True) (okp := fun _ => True) ?hr ?hp (fun _ hk => hk) trivial (Below.refl _ _) (Nat.le_refl _) (by simp) ?_; (case hd => rfl); (case hg => rfl); (case hr => first | (go_simp; done) | (go_simp; rfl)); (case hp => exact (Reps.c4 (show Kd.M k53 _ _ _ (⟨a0_0, (⟨a0_1, a0_2, a0_3⟩ : S51)⟩ : S53) [.int .i64 a0_0, .int .i64 a0_1, .int .u64 a0_2, .string a0_3] from (k53_mkM _ _ _ (⟨a0_0, (⟨a0_1, a0_2, a0_3⟩ : S51)⟩ : S53) )) (Reps.none _ _))); intro v747 w71 ho72 hb hg_ hnew_; clear hg_ hnew_; (first | rw [← Ny746.out] at ho72 | (simp only [Int.reduceToNat] at ho72; rw [← Ny746.out] at ho72)); have n0_ := Aside0.mk (Kd.R_lower (Kd.R_newB ho72 (g := gb743) (o := .cells #[.int .i64 a0_0, .int .i64 a0_1, .int .u64 a0_2, .string a0_3] 53 (0, 0)) (by (with_reducible repeat (first | refine blk_drewN ?_ _ | refine blk_drew ?_ | refine blk_alloc ?_ _)); exact BK743.out)) (below_size (by repeat (first | (with_reducible first | exact HB.out | apply below_alloc | apply pw_below_drewN | apply below_drew1 | refine below_set ?_ GE743.out) | exact HB.out)))); have n1_ := Aside0.mk (blk_below (g := gb743) (o := .cells #[.int .i64 a0_0, .int .i64 a0_1, .int .u64 a0_2, .string a0_3] 53 (0, 0)) (by (with_reducible repeat (first | refine blk_drewN ?_ _ | refine blk_drew ?_ | refine blk_alloc ?_ _)); exact BK743.out) hb); have n2_ := Aside0.mk (below_step (by repeat (first | (with_reducible first | exact HB.out | apply below_alloc | apply pw_below_drewN | apply below_drew1 | refine below_set ?_ GE743.out) | exact HB.out)) hb); clear BK743; clear HB; have HO748 := n0_; have BK743 := n1_; have HB := n2_; clear n0_ n1_ n2_; clear hb ho72; obtain ⟨Ao73, co73, eo73⟩ := Kd.R_slice HO748.out; subst eo73) | ((with_reducible refine gate_callee (f := 35) rfl ?_); refine goesL_ (some 31) rfl rfl Try.func35 (by kernel_rfl) rfl #[.slice Ao73 y746.length co73] rfl (by (try simp only [List.map_toArray, List.map_cons, List.map_nil]); first | done | rfl | (simp only [List.length_drop, List.length_take]; rfl)) ?_; (with_reducible refine (tlv_Encode.calls kj7 _ _ y746 t749 t750 _ ?side1 ?side2 A19.out).mono ?_); (case side1 => repeat (first | exact (Kd.R_reads' HO748.out).2.2 | (with_reducible refine Kd.C_alloc ?_ _) | (with_reducible refine Kd.C_drewN ?_ _) | (with_reducible refine Kd.C_drew ?_))); (case side2 => exact (Kd.R_reads' HO748.out).2.1); rintro e w74 ⟨v751, rfl, ho0, hb⟩; refine ⟨_, rfl, ?_⟩; have n0_ := Aside0.mk (Kd.R_below (by (with_reducible repeat (first | apply Kd.R_alloc | apply Kd.R_drewN | apply Kd.R_drew)); exact HO748.out) hb); have n1_ := Aside0.mk (Kd.R_lower ho0 (below_size (by repeat (first | (with_reducible first | exact HB.out | apply below_alloc | apply pw_below_drewN | apply below_drew1 | refine below_set ?_ GE743.out) | exact HB.out)))); have n2_ := Aside0.mk (blk_below (g := gb743) (o := .cells #[.int .i64 a0_0, .int .i64 a0_1, .int .u64 a0_2, .string a0_3] 53 (0, 0)) (by (with_reducible repeat (first | refine blk_drewN ?_ _ | refine blk_drew ?_ | refine blk_alloc ?_ _)); exact BK743.out) hb); have n3_ := Aside0.mk (below_step (by repeat (first | (with_reducible first | exact HB.out | apply below_alloc | apply pw_below_drewN | apply below_drew1 | refine below_set ?_ GE743.out) | exact HB.out)) hb); clear HO748; clear BK743; clear HB; have HO748 := n0_; have HO752 := n1_; have BK743 := n2_; have HB := n3_; clear n0_ n1_ n2_ n3_; (try clear hb); (try clear hb2); (try clear hk); (try clear hi); (try clear ho0)))
      go_ret
      exact ⟨by first | rfl | (simp [errW_none, errW_some] <;> rfl) | (simp [*, errW_none, errW_some] <;> rfl), by repeat (first | (with_reducible first | exact HB.out | apply below_alloc | apply pw_below_drewN | apply below_drew1 | refine below_set ?_ GE743.out) | exact HB.out)⟩
 ·replace c3 := Bool.eq_false_iff.mpr c3
  subst c3
  have H1 : (some false) = some r := by rw [if_neg (show ¬ (false = true) by decide)] at H; exact H
  clear H
  have H := H1
  clear H1
  exact absurd ((Option.some.inj H).trans hr_.out) (by simp)
end Go.Proofs.Yteejpfemaedmkaa.X
