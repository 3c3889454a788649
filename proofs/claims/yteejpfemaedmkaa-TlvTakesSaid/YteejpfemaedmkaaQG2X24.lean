-- Written by wip/printx.py: the kit's printer with functions proved by hand. Not trusted: Lean checks it.
import Derived.Test.YteejpfemaedmkaaQG2X0
import Derived.Test.YteejpfemaedmkaaQG2X2
import Derived.Test.YteejpfemaedmkaaQG2X5
import Derived.Test.YteejpfemaedmkaaQG2X22
import Derived.Test.YteejpfemaedmkaaQG2X23
namespace Go.Proofs.Yteejpfemaedmkaa.X
open Go.RowKit Go.Proofs.YteejpfemaedmkaaW.PrintWords Go.Proofs.YteejpfemaedmkaaW.PrintLast Go.Proofs.YteejpfemaedmkaaW.PrintMore
attribute [local go_sem] max2_int min2_int max_two min_two max_three min_three max_four min_four
set_option linter.unusedVariables false
set_option linter.unusedSimpArgs false
attribute [local go_sem] vx_gtr vx_leq vx_geq
attribute [local go_sem high] eqA53
def tlv_field.j0 : Nat → List Int → Int → Int → Bool → Option (Int × Int × Int × ByteArray × List Int × Bool)
 | 0, _, _, _, _ => none
 | k + 1, x0, x7, x8, x32 => if x32 = true then (some (0, 0, 0, (⟨#[]⟩ : ByteArray), ([] : List Int), false)) else (if 0 ≤ x8 then (if x8 ≤ (x0.length : Int) then ((some (x0.drop (x8 : Int).toNat : List Int)).bind fun y521 => ((varint_Take.f k y521).bind fun bt526 => (if bt526.2.2 = 0 then (if bt526.1 > (IntKind.u64.wrap (wrap64 ((y521.length : Int) - bt526.2.1))) then (some (0, 0, 0, (⟨#[]⟩ : ByteArray), ([] : List Int), false)) else (if 0 ≤ bt526.2.1 then (if bt526.2.1 ≤ (y521.length : Int) then ((some (y521.drop (bt526.2.1 : Int).toNat : List Int)).bind fun y529 => (if 0 ≤ bt526.1 then (if bt526.1 ≤ (y529.length : Int) then ((tlv_value.f k (wrap64 (Go.bits .and .u64 x7 7)) (y529.take (bt526.1 : Int).toNat)).bind fun bt539 => (some (wrap64 (x7 / 8), bt539.1, bt539.2.1, bt539.2.2.1, (y529.drop (bt526.1 : Int).toNat), bt539.2.2.2))) else (none)) else (none))) else (none)) else (none))) else (some (0, 0, 0, (⟨#[]⟩ : ByteArray), ([] : List Int), false))))) else (none)) else (none))
def tlv_field.f (k : Nat) (l0 : List Int) (a1 : Int) : Option (Int × Int × Int × ByteArray × List Int × Bool) := (varint_Take.f k l0).bind fun bt518 => (if bt518.2.2 = 0 then (if (bt518.1 / 8) > 65535 then (tlv_field.j0 k l0 bt518.1 bt518.2.1 true) else (tlv_field.j0 k l0 bt518.1 bt518.2.1 (decide ((wrap64 (bt518.1 / 8)) ≤ a1)))) else (tlv_field.j0 k l0 bt518.1 bt518.2.1 true))
theorem tlv_field.mono_l : ∀ k, (∀ y0 y1 y2 y3, LeO (tlv_field.j0 k y0 y1 y2 y3) (tlv_field.j0 (k + 1) y0 y1 y2 y3))
 | 0 => fun _ _ _ _ r h => by simp [tlv_field.j0] at h
 | k + 1 => by
  have ih0 := tlv_field.mono_l k
  ·intro y0 y1 y2 y3
   unfold tlv_field.j0
   repeat' first
   | (with_reducible exact ih0 _ _ _ _)
   | (with_reducible exact tlv_value.mono _ _ _)
   | (with_reducible exact varint_Take.mono _ _)
   | (with_reducible exact LeO.refl _)
   | (with_reducible exact LeO.none _)
   | (with_reducible refine LeO.ite ?_ ?_)
   | (with_reducible refine LeO.bind ?_ (fun _ => ?_))
   | exact ih0 _ _ _ _
   | exact tlv_value.mono _ _ _
   | exact varint_Take.mono _ _
   | exact LeO.none _
   | refine LeO.ite ?_ ?_
   | refine LeO.bind ?_ (fun _ => ?_)
theorem tlv_field.mono : ∀ a0 a1 k, LeO (tlv_field.f k a0 a1) (tlv_field.f (k + 1) a0 a1) := by
 intro a0 a1 k
 have ih0 := tlv_field.mono_l k
 unfold tlv_field.f
 repeat' first
   | (with_reducible exact ih0 _ _ _ _)
   | (with_reducible exact tlv_value.mono _ _ _)
   | (with_reducible exact varint_Take.mono _ _)
   | (with_reducible exact LeO.refl _)
   | (with_reducible exact LeO.none _)
   | (with_reducible refine LeO.ite ?_ ?_)
   | (with_reducible refine LeO.bind ?_ (fun _ => ?_))
   | exact ih0 _ _ _ _
   | exact tlv_value.mono _ _ _
   | exact varint_Take.mono _ _
   | exact LeO.none _
   | refine LeO.ite ?_ ?_
   | refine LeO.bind ?_ (fun _ => ?_)
def tlv_field.T10 : Bool × List (List Nat × List Nat) := (true, [([], []), ([0], [0]), ([1], [1]), ([], []), ([2, 3], [2, 3]), ([], []), ([], []), ([5, 6], [5, 6]), ([], []), ([4, 0, 1, 2, 3, 4], [4]), ([7, 9, 0, 1, 2, 3, 4, 5, 6, 7, 9], [7]), ([8, 10, 0, 1, 2, 3, 4, 5, 6, 7, 8, 9, 10], [8])])
def tlv_field.B10 : List Nat := [0, 1, 3, 0, 15, 0, 0, 96, 0, 31, 767, 2047]
theorem tlv_field.tab10 : rtab .any (opsOf Try.f68 10) = tlv_field.T10 := by kernel_rfl
theorem tlv_field.bits10 : waitsOk tlv_field.T10.2 tlv_field.B10 = true := by kernel_rfl
set_option maxHeartbeats 8000000 in
set_option maxRecDepth 100000 in
theorem tlv_field.calls (k : Nat) (P0_ : Nat → Prop) (A0 : Option Addr) (c0 : Nat) (l0 : List Int) (a1 : Int) (r1 : Int) (r2 : Int) (r3 : Int) (r4 : ByteArray) (r5 : List Int) (r6 : Bool) (w : World) (hs0 : Kd.V (Kd.int .u8) 5 w w.heap.size (fun k_ => P0_ k_) (.slice A0 l0.length c0) l0) (h : tlv_field.f k l0 a1 = some (r1, r2, r3, r4, r5, r6)) :
  Calls Try.prog 68 #[.slice A0 l0.length c0, .int .i64 a1] w fun e w' => ∃ v4_ : Value, e = .returned (.tuple #[.agg #[.int .i64 r1, .int .i64 r2, .int .u64 r3, .string r4], v4_, .bool r6]) ∧ Kd.V (Kd.int .u8) 5 w' w.heap.size (fun k_ => (P0_ k_ ∨ w.heap.size ≤ k_)) v4_ r5 ∧ Below w.heap.size w w' := by
 have hu53 := Try.underlying53
 have hu51 := Try.underlying51
 have HO0 := Aside0.mk (show Kd.V (Kd.int .u8) 5 w w.heap.size (fun k_ => (P0_ k_ ∨ w.heap.size ≤ k_)) (.slice A0 l0.length c0) l0 from Kd.V_mono hs0 (fun k_ hk => .inl hk))
 have HB := Aside0.mk (Below.refl w.heap.size w)
 have H : ((varint_Take.f k l0).bind fun bt518 => (if bt518.2.2 = 0 then (if (bt518.1 / 8) > 65535 then (tlv_field.j0 k l0 bt518.1 bt518.2.1 true) else (tlv_field.j0 k l0 bt518.1 bt518.2.1 (decide ((wrap64 (bt518.1 / 8)) ≤ a1)))) else (tlv_field.j0 k l0 bt518.1 bt518.2.1 true))) = some (r1, r2, r3, r4, r5, r6) := h
 clear h
 replace H := Option.bind_eq_some_iff.mp H
 obtain ⟨⟨t518, t519, t520⟩, A30, H⟩ := H
 replace H : (if t520 = 0 then (if (t518 / 8) > 65535 then (tlv_field.j0 k l0 t518 t519 true) else (tlv_field.j0 k l0 t518 t519 (decide ((wrap64 (t518 / 8)) ≤ a1)))) else (tlv_field.j0 k l0 t518 t519 true)) = some (r1, r2, r3, r4, r5, r6) := H
 have A3 := Aside0.mk A30
 clear A30
 have HC4 := Aside0.mk H
 clear H
 go_enter Try.func68, Try.ntmps68
 go_upto_region 2 with (first | ((with_reducible refine gate_dst (N := 4) rfl ?_); (try (refine gate_guard (by rfl) ?_; dsimp only)); refine box_event ?hg (N := 4) ?hd (cs := #[.int .i64 0, .int .i64 0, .int .u64 0, .string (⟨#[]⟩ : ByteArray)]) (t := 53) ?hr ?_; (case hd => rfl); (case hg => rfl); (case hr => first | (go_simp; done) | (go_simp; rfl)); intro gb517 hg w5 hbox hb; have n0_ := Aside0.mk (Kd.V_below (Kd.V_elderB (by (with_reducible repeat (first | apply Kd.V_alloc | apply Kd.V_drewN | apply Kd.V_drew)); exact HO0.out) gb517 (Nat.le_of_eq hg.symm)) hb); have n1_ := Aside0.mk (below_step (by repeat (first | (with_reducible first | exact HB.out | apply below_alloc | apply pw_below_drewN | apply below_drew1) | exact HB.out)) hb); have n2_ := Aside0.mk (hbox); have n3_ := Aside0.mk ((by rw [hg]; exact (below_size (by repeat (first | (with_reducible first | exact HB.out | apply below_alloc | apply pw_below_drewN | apply below_drew1) | exact HB.out))) : w.heap.size ≤ gb517)); have n4_ := Aside0.mk ((by rw [hg]; exact (below_size (by repeat (first | (with_reducible first | exact HB.out | apply below_alloc | apply pw_below_drewN | apply below_drew1) | exact HB.out))) : w.heap.size ≤ gb517)); clear HO0; clear HB; have HO0 := n0_; have HB := n1_; have BK517 := n2_; have GW517 := n3_; have GE517 := n4_; clear n0_ n1_ n2_ n3_ n4_; clear hb hbox hg) | ((with_reducible refine gate_callee (f := 76) rfl ?_); refine goesL_ (some 15) rfl rfl Try.func76 (by kernel_rfl) rfl #[.slice A0 l0.length c0] rfl (by (try simp only [List.map_toArray, List.map_cons, List.map_nil]); first | done | rfl | (simp only [List.length_drop, List.length_take]; rfl)) ?_; (with_reducible refine (varint_Take.calls k _ _ l0 t518 t519 t520 _ ?side1 ?side2 A3.out).mono ?_); (case side1 => repeat (first | exact (Kd.V_reads' HO0.out).2.2 | (with_reducible refine Kd.C_alloc ?_ _) | (with_reducible refine Kd.C_drewN ?_ _) | (with_reducible refine Kd.C_drew ?_))); (case side2 => exact (Kd.V_reads' HO0.out).2.1); rintro e w' ⟨rfl, ⟨nd, rfl⟩⟩; refine ⟨_, rfl, ?_⟩))
 (try simp only [Act.put, List.setIfInBounds_toArray, List.set_cons_zero, List.set_cons_succ])
 go_cut [32] (fun v32 wc => ∃ (kq : Nat) (x32_3 : Bool), v32 = .bool x32_3 ∧ Aside0 (tlv_field.j0 kq l0 t518 t519 x32_3 = some (r1, r2, r3, r4, r5, r6)) ∧ Aside0 (kq ≤ k) ∧ Aside0 (Kd.V (Kd.int .u8) 5 wc w.heap.size (fun k_ => (P0_ k_ ∨ w.heap.size ≤ k_) ∧ k_ ≠ gb517) (.slice A0 l0.length c0) l0) ∧ Aside0 (wc.heap[gb517]? = some (.cells #[.int .i64 0, .int .i64 0, .int .u64 0, .string (⟨#[]⟩ : ByteArray)] 53 (0, 0))) ∧ Aside0 (Below w.heap.size w wc))
 case first =>
  have H := HC4.out
  clear HC4
  by_cases c6 : t520 = 0
  ·rw [if_pos c6] at H
   have c6b0 : (t520 == 0) = true := beq_iff_eq.mpr c6
   have c6b1 : (t520 != 0) = false := bne_eq_false_iff_eq.mpr c6
   clear c6
   (first | rw [c6b0] | (simp only [i64_w, i32_w]; rw [c6b0]) | skip)
   by_cases c7 : (t518 / 8) > 65535
   ·rw [if_pos c7] at H
    have c7b0 : decide (65535 < (t518 / 8)) = true := decide_eq_true c7
    clear c7
    have H' := Aside0.mk H
    clear H
    go_wp2
    go_meet
    case rel => exact ⟨_, (true), (by first | rfl | (simp; done) | (simp [*]; done)), H', ⟨by first | omega | exact Nat.le_refl _⟩, ⟨by (with_reducible repeat (first | apply Kd.V_alloc | apply Kd.V_drewN | apply Kd.V_drew)); exact HO0.out⟩, ⟨by (with_reducible repeat (first | refine blk_drewN ?_ _ | refine blk_drew ?_ | refine blk_alloc ?_ _)); exact BK517.out⟩, ⟨by repeat (first | (with_reducible first | exact HB.out | apply below_alloc | apply pw_below_drewN | apply below_drew1 | refine below_set ?_ GE517.out) | exact HB.out)⟩⟩
   ·rw [if_neg c7] at H
    have c7b0 : decide (65535 < (t518 / 8)) = false := decide_eq_false c7
    clear c7
    have H' := Aside0.mk H
    clear H
    go_wp2
    go_meet
    case rel => exact ⟨_, (decide ((wrap64 (t518 / 8)) ≤ a1)), (by first | rfl | (simp; done) | (simp [*]; done)), H', ⟨by first | omega | exact Nat.le_refl _⟩, ⟨by (with_reducible repeat (first | apply Kd.V_alloc | apply Kd.V_drewN | apply Kd.V_drew)); exact HO0.out⟩, ⟨by (with_reducible repeat (first | refine blk_drewN ?_ _ | refine blk_drew ?_ | refine blk_alloc ?_ _)); exact BK517.out⟩, ⟨by repeat (first | (with_reducible first | exact HB.out | apply below_alloc | apply pw_below_drewN | apply below_drew1 | refine below_set ?_ GE517.out) | exact HB.out)⟩⟩
  ·rw [if_neg c6] at H
   have c6b0 : (t520 == 0) = false := beq_eq_false_iff_ne.mpr c6
   have c6b1 : (t520 != 0) = true := bne_iff_ne.mpr c6
   (first | rw [c6b0] | (simp only [i64_w, i32_w]; rw [c6b0]) | skip)
   have H' := Aside0.mk H
   clear H
   go_wp2
   go_meet
   case rel => exact ⟨_, (true), (by first | rfl | (simp; done) | (simp [*]; done)), H', ⟨by first | omega | exact Nat.le_refl _⟩, ⟨by (with_reducible repeat (first | apply Kd.V_alloc | apply Kd.V_drewN | apply Kd.V_drew)); exact HO0.out⟩, ⟨by (with_reducible repeat (first | refine blk_drewN ?_ _ | refine blk_drew ?_ | refine blk_alloc ?_ _)); exact BK517.out⟩, ⟨by repeat (first | (with_reducible first | exact HB.out | apply below_alloc | apply pw_below_drewN | apply below_drew1 | refine below_set ?_ GE517.out) | exact HB.out)⟩⟩
 case rest =>
  clear HC4
  try clear p2
  try clear c6
  try clear c6b0
  try clear c6b1
  try clear p6
  try clear c7
  try clear c7b0
  obtain ⟨kq, x32_3, rfl, HA, HJ3, HO_0, BK517, HB⟩ := hcut
  cases kq with
  | zero => exact absurd HA.out (by simp [tlv_field.j0])
  | succ kj3 =>
   have H := HA.out
   clear HA
   simp only [tlv_field.j0] at H
   by_cases c8 : x32_3 = true
   ·subst c8
    have H1 : (some (0, 0, 0, (⟨#[]⟩ : ByteArray), ([] : List Int), false)) = some (r1, r2, r3, r4, r5, r6) := by rw [if_pos rfl] at H; exact H
    clear H
    have H := H1
    clear H1
    simp only [Option.some.injEq, Prod.mk.injEq] at H
    obtain ⟨rfl, rfl, rfl, rfl, rfl, rfl⟩ := H
    have hcz9_0 : wc.cell? ⟨gb517, 0, none⟩ = some (.int .i64 0) := (blk_cell BK517.out 0).trans rfl
    have hcz9_1 : wc.cell? ⟨gb517, 1, none⟩ = some (.int .i64 0) := (blk_cell BK517.out 1).trans rfl
    have hcz9_2 : wc.cell? ⟨gb517, 2, none⟩ = some (.int .u64 0) := (blk_cell BK517.out 2).trans rfl
    have hcz9_3 : wc.cell? ⟨gb517, 3, none⟩ = some (.string (⟨#[]⟩ : ByteArray)) := (blk_cell BK517.out 3).trans rfl
    have hfz9_0 := blk_frozen BK517.out 0
    have hfz9_1 := blk_frozen BK517.out 1
    have hfz9_2 := blk_frozen BK517.out 2
    have hfz9_3 := blk_frozen BK517.out 3
    go_wp2
    refine bodyPost_ret (results_ctt rfl _ _ gb517 53 #[.int .i64 0, .int .i64 0, .int .u64 0, .string (⟨#[]⟩ : ByteArray)] (0, 0) _ rfl (by (with_reducible repeat (first | refine blk_drewN ?_ _ | refine blk_drew ?_ | refine blk_alloc ?_ _)); refine blk_put (cs := #[.int .i64 0, .int .i64 0, .int .u64 0, .string (⟨#[]⟩ : ByteArray)]) ?_ 3 _ rfl; (with_reducible repeat (first | refine blk_drewN ?_ _ | refine blk_drew ?_ | refine blk_alloc ?_ _)); refine blk_put (cs := #[.int .i64 0, .int .i64 0, .int .u64 0, .string (⟨#[]⟩ : ByteArray)]) ?_ 2 _ rfl; (with_reducible repeat (first | refine blk_drewN ?_ _ | refine blk_drew ?_ | refine blk_alloc ?_ _)); refine blk_put (cs := #[.int .i64 0, .int .i64 0, .int .u64 0, .string (⟨#[]⟩ : ByteArray)]) ?_ 1 _ rfl; (with_reducible repeat (first | refine blk_drewN ?_ _ | refine blk_drew ?_ | refine blk_alloc ?_ _)); refine blk_put (cs := #[.int .i64 0, .int .i64 0, .int .u64 0, .string (⟨#[]⟩ : ByteArray)]) ?_ 0 _ rfl; (with_reducible repeat (first | refine blk_drewN ?_ _ | refine blk_drew ?_ | refine blk_alloc ?_ _)); exact BK517.out) Try.underlying53 rfl (by kernel_rfl)) rfl ?_
    exact ⟨_, by first | rfl | (simp [errW_none, errW_some] <;> rfl) | (simp [*, errW_none, errW_some] <;> rfl), Kd.V_mono (ok := fun _ => False) (Kd.R_V (base := 0) (Kd.R_nil _ _ _ _ _)) (fun _ hk => hk.elim), by repeat (first | (with_reducible first | exact HB.out | apply below_alloc | apply pw_below_drewN | apply below_drew1 | refine below_set ?_ GE517.out) | exact HB.out)⟩
   ·replace c8 := Bool.eq_false_iff.mpr c8
    subst c8
    have H1 : (if 0 ≤ t519 then (if t519 ≤ (l0.length : Int) then ((some (l0.drop (t519 : Int).toNat : List Int)).bind fun y521 => ((varint_Take.f kj3 y521).bind fun bt526 => (if bt526.2.2 = 0 then (if bt526.1 > (IntKind.u64.wrap (wrap64 ((y521.length : Int) - bt526.2.1))) then (some (0, 0, 0, (⟨#[]⟩ : ByteArray), ([] : List Int), false)) else (if 0 ≤ bt526.2.1 then (if bt526.2.1 ≤ (y521.length : Int) then ((some (y521.drop (bt526.2.1 : Int).toNat : List Int)).bind fun y529 => (if 0 ≤ bt526.1 then (if bt526.1 ≤ (y529.length : Int) then ((tlv_value.f kj3 (wrap64 (Go.bits .and .u64 t518 7)) (y529.take (bt526.1 : Int).toNat)).bind fun bt539 => (some (wrap64 (t518 / 8), bt539.1, bt539.2.1, bt539.2.2.1, (y529.drop (bt526.1 : Int).toNat), bt539.2.2.2))) else (none)) else (none))) else (none)) else (none))) else (some (0, 0, 0, (⟨#[]⟩ : ByteArray), ([] : List Int), false))))) else (none)) else (none)) = some (r1, r2, r3, r4, r5, r6) := by rw [if_neg (show ¬ (false = true) by decide)] at H; exact H
    clear H
    have H := H1
    clear H1
    by_cases c10 : 0 ≤ t519
    ·rw [if_pos c10] at H
     have c10b0 := eq_true c10
     have c10b1 : decide (0 ≤ t519) = true := decide_eq_true c10
     clear c10
     by_cases c11 : t519 ≤ (l0.length : Int)
     ·rw [if_pos c11] at H
      have c11b0 := eq_true c11
      have c11b1 : decide (t519 ≤ (l0.length : Int)) = true := decide_eq_true c11
      clear c11
      obtain ⟨y521, hy521⟩ : ∃ y_ : List Int, y_ = (l0.drop (t519 : Int).toNat) := ⟨_, rfl⟩
      replace H : ((varint_Take.f kj3 y521).bind fun bt526 => (if bt526.2.2 = 0 then (if bt526.1 > (IntKind.u64.wrap (wrap64 ((y521.length : Int) - bt526.2.1))) then (some (0, 0, 0, (⟨#[]⟩ : ByteArray), ([] : List Int), false)) else (if 0 ≤ bt526.2.1 then (if bt526.2.1 ≤ (y521.length : Int) then ((some (y521.drop (bt526.2.1 : Int).toNat : List Int)).bind fun y529 => (if 0 ≤ bt526.1 then (if bt526.1 ≤ (y529.length : Int) then ((tlv_value.f kj3 (wrap64 (Go.bits .and .u64 t518 7)) (y529.take (bt526.1 : Int).toNat)).bind fun bt539 => (some (wrap64 (t518 / 8), bt539.1, bt539.2.1, bt539.2.2.1, (y529.drop (bt526.1 : Int).toNat), bt539.2.2.2))) else (none)) else (none))) else (none)) else (none))) else (some (0, 0, 0, (⟨#[]⟩ : ByteArray), ([] : List Int), false)))) = some (r1, r2, r3, r4, r5, r6) := by first | (rw [hy521]; with_reducible exact H) | (have H2_ := (Option.bind_some _ _).symm.trans H; rw [hy521]; with_reducible exact H2_) | (have H2_ := (Option.bind_some _ _).symm.trans H; with_reducible exact H2_) | with_reducible exact H | (rw [hy521]; exact H) | exact H
      have Ny521 := Aside0.mk hy521
      clear hy521
      replace H := Option.bind_eq_some_iff.mp H
      obtain ⟨⟨t526, t527, t528⟩, A120, H⟩ := H
      replace H : (if t528 = 0 then (if t526 > (IntKind.u64.wrap (wrap64 ((y521.length : Int) - t527))) then (some (0, 0, 0, (⟨#[]⟩ : ByteArray), ([] : List Int), false)) else (if 0 ≤ t527 then (if t527 ≤ (y521.length : Int) then ((some (y521.drop (t527 : Int).toNat : List Int)).bind fun y529 => (if 0 ≤ t526 then (if t526 ≤ (y529.length : Int) then ((tlv_value.f kj3 (wrap64 (Go.bits .and .u64 t518 7)) (y529.take (t526 : Int).toNat)).bind fun bt539 => (some (wrap64 (t518 / 8), bt539.1, bt539.2.1, bt539.2.2.1, (y529.drop (t526 : Int).toNat), bt539.2.2.2))) else (none)) else (none))) else (none)) else (none))) else (some (0, 0, 0, (⟨#[]⟩ : ByteArray), ([] : List Int), false))) = some (r1, r2, r3, r4, r5, r6) := H
      have A12 := Aside0.mk A120
      clear A120
      by_cases c13 : t528 = 0
      ·rw [if_pos c13] at H
       have c13b0 : (t528 == 0) = true := beq_iff_eq.mpr c13
       have c13b1 : (t528 != 0) = false := bne_eq_false_iff_eq.mpr c13
       clear c13
       by_cases c14 : t526 > (IntKind.u64.wrap (wrap64 ((y521.length : Int) - t527)))
       ·rw [if_pos c14] at H
        have c14b0 : decide ((IntKind.u64.wrap (wrap64 ((y521.length : Int) - t527))) < t526) = true := decide_eq_true c14
        clear c14
        simp only [Option.some.injEq, Prod.mk.injEq] at H
        obtain ⟨rfl, rfl, rfl, rfl, rfl, rfl⟩ := H
        have q15 : (t519 : Int) ≤ ((l0.length : Int) : Int) := of_decide_eq_true (by first | (with_reducible assumption) | assumption)
        obtain ⟨i015, hi015, _, hsz15, _⟩ := info_parts info5
        have hroom15 : l0.length ≤ c0 := (Kd.V_reads' HO_0.out).2.1
        have hC15 : Kd.F (Kd.int .u8) _ _ A0 l0.length l0 := (Kd.V_at (base := w.heap.size) HO_0.out).2.2
        have q015 : (0 : Int) ≤ (t519 : Int) := of_decide_eq_true (by first | (with_reducible assumption) | assumption)
        have hcut15 := cut_from (P := Try.prog) 63 5 .i64 Try.underlying63 hi015 1 hsz15 A0 l0.length c0 t519 q015 q15
        have hr15 := Kd.F_cut (m := (t519 : Int).toNat) (c := c0) hC15 (by omega) hroom15
        obtain ⟨A15, hA15⟩ : ∃ A1, A1 = (if c0 = (t519 : Int).toNat then A0 else (A0 : Option Addr).map (·.add ((t519 : Int).toNat * 1))) := ⟨_, rfl⟩
        obtain ⟨c15, hc15⟩ : ∃ c1, c1 = c0 - (t519 : Int).toNat := ⟨_, rfl⟩
        have hy15 : y521.length = l0.length - (t519 : Int).toNat := (by rw [Ny521.out, List.length_drop] <;> omega)
        rw [show (l0).drop (t519 : Int).toNat = y521 from Ny521.out.symm] at hr15
        replace hr15 : Kd.F (Kd.int .u8) _ _ A15 y521.length y521 := (by rw [hA15]; exact hr15)
        rw [← hy15, ← hA15, ← hc15] at hcut15
        have HO525 := Aside0.mk (show Kd.V (Kd.int .u8) 5 _ w.heap.size _ (.slice A15 y521.length c15) y521 from Kd.V_mk (by rw [hy15, hc15]; exact Nat.sub_le_sub_right hroom15 _) hr15)
        have HC525 := Aside0.mk (show y521.length ≤ c15 from by rw [hy15, hc15]; exact Nat.sub_le_sub_right hroom15 _)
        clear hr15 hC15 hroom15 hi015 hsz15 hc15
        have KY15 := Aside0.mk hy15
        have KA15 := Aside0.mk hA15
        clear hy15 hA15
        replace q15 := eq_true q15
        go_wp2_with (first | ((with_reducible refine gate_callee (f := 76) rfl ?_); refine goesL_ (some 39) rfl rfl Try.func76 (by kernel_rfl) rfl #[.slice A15 y521.length c15] rfl (by (try simp only [List.map_toArray, List.map_cons, List.map_nil]); first | done | rfl | (simp only [List.length_drop, List.length_take]; rfl)) ?_; (with_reducible refine (varint_Take.calls kj3 _ _ y521 t526 t527 t528 _ ?side1 ?side2 A12.out).mono ?_); (case side1 => repeat (first | exact (Kd.V_reads' HO525.out).2.2 | (with_reducible refine Kd.C_alloc ?_ _) | (with_reducible refine Kd.C_drewN ?_ _) | (with_reducible refine Kd.C_drew ?_))); (case side2 => exact (Kd.V_reads' HO525.out).2.1); rintro e w' ⟨rfl, ⟨nd, rfl⟩⟩; refine ⟨_, rfl, ?_⟩; (try (rw [drewN_self wc]; generalize hq_ : World.drewN wc _ = wc; have n0_ : Aside0 (Kd.V (Kd.int .u8) 5 wc w.heap.size (fun k_ => (P0_ k_ ∨ w.heap.size ≤ k_) ∧ k_ ≠ gb517) (.slice A15 y521.length c15) y521) := ⟨by rw [← hq_]; exact (by (with_reducible repeat (first | apply Kd.V_alloc | apply Kd.V_drewN | apply Kd.V_drew)); exact HO525.out)⟩; have n1_ : Aside0 (Kd.V (Kd.int .u8) 5 wc w.heap.size (fun k_ => (P0_ k_ ∨ w.heap.size ≤ k_) ∧ k_ ≠ gb517) (.slice A0 l0.length c0) l0) := ⟨by rw [← hq_]; exact (by (with_reducible repeat (first | apply Kd.V_alloc | apply Kd.V_drewN | apply Kd.V_drew)); exact HO_0.out)⟩; have n2_ : Aside0 (wc.heap[gb517]? = some (.cells #[.int .i64 0, .int .i64 0, .int .u64 0, .string (⟨#[]⟩ : ByteArray)] 53 (0, 0))) := ⟨by rw [← hq_]; exact (by (with_reducible repeat (first | refine blk_drewN ?_ _ | refine blk_drew ?_ | refine blk_alloc ?_ _)); exact BK517.out)⟩; have n3_ : Aside0 (Below w.heap.size w wc) := ⟨by rw [← hq_]; exact (by repeat (first | (with_reducible first | exact HB.out | apply below_alloc | apply pw_below_drewN | apply below_drew1 | refine below_set ?_ GE517.out) | exact HB.out))⟩; clear HO525 HO_0 BK517 HB hq_; have HO525 := n0_; have HO_0 := n1_; have BK517 := n2_; have HB := n3_; clear n0_ n1_ n2_ n3_)); have hcz16_0 : wc.cell? ⟨gb517, 0, none⟩ = some (.int .i64 0) := (blk_cell BK517.out 0).trans rfl; have hcz16_1 : wc.cell? ⟨gb517, 1, none⟩ = some (.int .i64 0) := (blk_cell BK517.out 1).trans rfl; have hcz16_2 : wc.cell? ⟨gb517, 2, none⟩ = some (.int .u64 0) := (blk_cell BK517.out 2).trans rfl; have hcz16_3 : wc.cell? ⟨gb517, 3, none⟩ = some (.string (⟨#[]⟩ : ByteArray)) := (blk_cell BK517.out 3).trans rfl; have hfz16_0 := blk_frozen BK517.out 0; have hfz16_1 := blk_frozen BK517.out 1; have hfz16_2 := blk_frozen BK517.out 2; have hfz16_3 := blk_frozen BK517.out 3))
        refine bodyPost_ret (results_ctt rfl _ _ gb517 53 #[.int .i64 0, .int .i64 0, .int .u64 0, .string (⟨#[]⟩ : ByteArray)] (0, 0) _ rfl (by (with_reducible repeat (first | refine blk_drewN ?_ _ | refine blk_drew ?_ | refine blk_alloc ?_ _)); refine blk_put (cs := #[.int .i64 0, .int .i64 0, .int .u64 0, .string (⟨#[]⟩ : ByteArray)]) ?_ 3 _ rfl; (with_reducible repeat (first | refine blk_drewN ?_ _ | refine blk_drew ?_ | refine blk_alloc ?_ _)); refine blk_put (cs := #[.int .i64 0, .int .i64 0, .int .u64 0, .string (⟨#[]⟩ : ByteArray)]) ?_ 2 _ rfl; (with_reducible repeat (first | refine blk_drewN ?_ _ | refine blk_drew ?_ | refine blk_alloc ?_ _)); refine blk_put (cs := #[.int .i64 0, .int .i64 0, .int .u64 0, .string (⟨#[]⟩ : ByteArray)]) ?_ 1 _ rfl; (with_reducible repeat (first | refine blk_drewN ?_ _ | refine blk_drew ?_ | refine blk_alloc ?_ _)); refine blk_put (cs := #[.int .i64 0, .int .i64 0, .int .u64 0, .string (⟨#[]⟩ : ByteArray)]) ?_ 0 _ rfl; (with_reducible repeat (first | refine blk_drewN ?_ _ | refine blk_drew ?_ | refine blk_alloc ?_ _)); exact BK517.out) Try.underlying53 rfl (by kernel_rfl)) rfl ?_
        exact ⟨_, by first | rfl | (simp [errW_none, errW_some] <;> rfl) | (simp [*, errW_none, errW_some] <;> rfl), Kd.V_mono (ok := fun _ => False) (Kd.R_V (base := 0) (Kd.R_nil _ _ _ _ _)) (fun _ hk => hk.elim), by repeat (first | (with_reducible first | exact HB.out | apply below_alloc | apply pw_below_drewN | apply below_drew1 | refine below_set ?_ GE517.out) | exact HB.out)⟩
       ·rw [if_neg c14] at H
        have c14b0 : decide ((IntKind.u64.wrap (wrap64 ((y521.length : Int) - t527))) < t526) = false := decide_eq_false c14
        clear c14
        by_cases c17 : 0 ≤ t527
        ·rw [if_pos c17] at H
         have c17b0 := eq_true c17
         have c17b1 : decide (0 ≤ t527) = true := decide_eq_true c17
         clear c17
         by_cases c18 : t527 ≤ (y521.length : Int)
         ·rw [if_pos c18] at H
          have c18b0 := eq_true c18
          have c18b1 : decide (t527 ≤ (y521.length : Int)) = true := decide_eq_true c18
          clear c18
          obtain ⟨y529, hy529⟩ : ∃ y_ : List Int, y_ = (y521.drop (t527 : Int).toNat) := ⟨_, rfl⟩
          replace H : (if 0 ≤ t526 then (if t526 ≤ (y529.length : Int) then ((tlv_value.f kj3 (wrap64 (Go.bits .and .u64 t518 7)) (y529.take (t526 : Int).toNat)).bind fun bt539 => (some (wrap64 (t518 / 8), bt539.1, bt539.2.1, bt539.2.2.1, (y529.drop (t526 : Int).toNat), bt539.2.2.2))) else (none)) else (none)) = some (r1, r2, r3, r4, r5, r6) := by first | (rw [hy529]; with_reducible exact H) | (have H2_ := (Option.bind_some _ _).symm.trans H; rw [hy529]; with_reducible exact H2_) | (have H2_ := (Option.bind_some _ _).symm.trans H; with_reducible exact H2_) | with_reducible exact H | (rw [hy529]; exact H) | exact H
          have Ny529 := Aside0.mk hy529
          clear hy529
          by_cases c19 : 0 ≤ t526
          ·rw [if_pos c19] at H
           have c19b0 := eq_true c19
           have c19b1 : decide (0 ≤ t526) = true := decide_eq_true c19
           clear c19
           by_cases c20 : t526 ≤ (y529.length : Int)
           ·rw [if_pos c20] at H
            have c20b0 := eq_true c20
            have c20b1 : decide (t526 ≤ (y529.length : Int)) = true := decide_eq_true c20
            clear c20
            obtain ⟨y534, hy534⟩ : ∃ y_ : List Int, y_ = (y529.take (t526 : Int).toNat) := ⟨_, rfl⟩
            replace H : ((tlv_value.f kj3 (wrap64 (Go.bits .and .u64 t518 7)) y534).bind fun bt539 => (some (wrap64 (t518 / 8), bt539.1, bt539.2.1, bt539.2.2.1, (y529.drop (t526 : Int).toNat), bt539.2.2.2))) = some (r1, r2, r3, r4, r5, r6) := by first | (rw [hy534]; with_reducible exact H) | (have H2_ := (Option.bind_some _ _).symm.trans H; rw [hy534]; with_reducible exact H2_) | (have H2_ := (Option.bind_some _ _).symm.trans H; with_reducible exact H2_) | with_reducible exact H | (rw [hy534]; exact H) | exact H
            have Ny534 := Aside0.mk hy534
            clear hy534
            replace H := Option.bind_eq_some_iff.mp H
            obtain ⟨⟨t539, t540, t541, t542⟩, A210, H⟩ := H
            replace H : (some (wrap64 (t518 / 8), t539, t540, t541, (y529.drop (t526 : Int).toNat), t542)) = some (r1, r2, r3, r4, r5, r6) := H
            have A21 := Aside0.mk A210
            clear A210
            have c22b0 := eq_true (of_decide_eq_true (by first | (with_reducible assumption) | assumption) : 0 ≤ t526)
            have c23b0 := eq_true (of_decide_eq_true (by first | (with_reducible assumption) | assumption) : t526 ≤ (y529.length : Int))
            obtain ⟨y544, hy544⟩ : ∃ y_ : List Int, y_ = (y529.drop (t526 : Int).toNat) := ⟨_, rfl⟩
            replace H : (some (wrap64 (t518 / 8), t539, t540, t541, y544, t542)) = some (r1, r2, r3, r4, r5, r6) := by first | (rw [hy544]; with_reducible exact H) | (have H2_ := (Option.bind_some _ _).symm.trans H; rw [hy544]; with_reducible exact H2_) | (have H2_ := (Option.bind_some _ _).symm.trans H; with_reducible exact H2_) | with_reducible exact H | (rw [hy544]; exact H) | exact H
            have Ny544 := Aside0.mk hy544
            clear hy544
            simp only [Option.some.injEq, Prod.mk.injEq] at H
            obtain ⟨rfl, rfl, rfl, rfl, rfl, rfl⟩ := H
            have q24 : (t519 : Int) ≤ ((l0.length : Int) : Int) := of_decide_eq_true (by first | (with_reducible assumption) | assumption)
            obtain ⟨i024, hi024, _, hsz24, _⟩ := info_parts info5
            have hroom24 : l0.length ≤ c0 := (Kd.V_reads' HO_0.out).2.1
            have hC24 : Kd.F (Kd.int .u8) _ _ A0 l0.length l0 := (Kd.V_at (base := w.heap.size) HO_0.out).2.2
            have q024 : (0 : Int) ≤ (t519 : Int) := of_decide_eq_true (by first | (with_reducible assumption) | assumption)
            have hcut24 := cut_from (P := Try.prog) 63 5 .i64 Try.underlying63 hi024 1 hsz24 A0 l0.length c0 t519 q024 q24
            have hr24 := Kd.F_cut (m := (t519 : Int).toNat) (c := c0) hC24 (by omega) hroom24
            obtain ⟨A24, hA24⟩ : ∃ A1, A1 = (if c0 = (t519 : Int).toNat then A0 else (A0 : Option Addr).map (·.add ((t519 : Int).toNat * 1))) := ⟨_, rfl⟩
            obtain ⟨c24, hc24⟩ : ∃ c1, c1 = c0 - (t519 : Int).toNat := ⟨_, rfl⟩
            have hy24 : y521.length = l0.length - (t519 : Int).toNat := (by rw [Ny521.out, List.length_drop] <;> omega)
            rw [show (l0).drop (t519 : Int).toNat = y521 from Ny521.out.symm] at hr24
            replace hr24 : Kd.F (Kd.int .u8) _ _ A24 y521.length y521 := (by rw [hA24]; exact hr24)
            rw [← hy24, ← hA24, ← hc24] at hcut24
            have HO525 := Aside0.mk (show Kd.V (Kd.int .u8) 5 _ w.heap.size _ (.slice A24 y521.length c24) y521 from Kd.V_mk (by rw [hy24, hc24]; exact Nat.sub_le_sub_right hroom24 _) hr24)
            have HC525 := Aside0.mk (show y521.length ≤ c24 from by rw [hy24, hc24]; exact Nat.sub_le_sub_right hroom24 _)
            clear hr24 hC24 hroom24 hi024 hsz24 hc24
            have KY24 := Aside0.mk hy24
            have KA24 := Aside0.mk hA24
            clear hy24 hA24
            replace q24 := eq_true q24
            try go_wp2_with (first | ((with_reducible refine gate_callee (f := 76) rfl ?_); refine goesL_ (some 39) rfl rfl Try.func76 (by kernel_rfl) rfl #[.slice A24 y521.length c24] rfl (by (try simp only [List.map_toArray, List.map_cons, List.map_nil]); first | done | rfl | (simp only [List.length_drop, List.length_take]; rfl)) ?_; (with_reducible refine (varint_Take.calls kj3 _ _ y521 t526 t527 t528 _ ?side1 ?side2 A12.out).mono ?_); (case side1 => repeat (first | exact (Kd.V_reads' HO525.out).2.2 | (with_reducible refine Kd.C_alloc ?_ _) | (with_reducible refine Kd.C_drewN ?_ _) | (with_reducible refine Kd.C_drew ?_))); (case side2 => exact (Kd.V_reads' HO525.out).2.1); rintro e w' ⟨rfl, ⟨nd, rfl⟩⟩; refine ⟨_, rfl, ?_⟩; (try (rw [drewN_self wc]; generalize hq_ : World.drewN wc _ = wc; have n0_ : Aside0 (Kd.V (Kd.int .u8) 5 wc w.heap.size (fun k_ => (P0_ k_ ∨ w.heap.size ≤ k_) ∧ k_ ≠ gb517) (.slice A24 y521.length c24) y521) := ⟨by rw [← hq_]; exact (by (with_reducible repeat (first | apply Kd.V_alloc | apply Kd.V_drewN | apply Kd.V_drew)); exact HO525.out)⟩; have n1_ : Aside0 (Kd.V (Kd.int .u8) 5 wc w.heap.size (fun k_ => (P0_ k_ ∨ w.heap.size ≤ k_) ∧ k_ ≠ gb517) (.slice A0 l0.length c0) l0) := ⟨by rw [← hq_]; exact (by (with_reducible repeat (first | apply Kd.V_alloc | apply Kd.V_drewN | apply Kd.V_drew)); exact HO_0.out)⟩; have n2_ : Aside0 (wc.heap[gb517]? = some (.cells #[.int .i64 0, .int .i64 0, .int .u64 0, .string (⟨#[]⟩ : ByteArray)] 53 (0, 0))) := ⟨by rw [← hq_]; exact (by (with_reducible repeat (first | refine blk_drewN ?_ _ | refine blk_drew ?_ | refine blk_alloc ?_ _)); exact BK517.out)⟩; have n3_ : Aside0 (Below w.heap.size w wc) := ⟨by rw [← hq_]; exact (by repeat (first | (with_reducible first | exact HB.out | apply below_alloc | apply pw_below_drewN | apply below_drew1 | refine below_set ?_ GE517.out) | exact HB.out))⟩; clear HO525 HO_0 BK517 HB hq_; have HO525 := n0_; have HO_0 := n1_; have BK517 := n2_; have HB := n3_; clear n0_ n1_ n2_ n3_)); have q25 : (t527 : Int) ≤ ((y521.length : Int) : Int) := of_decide_eq_true (by first | (with_reducible assumption) | assumption); obtain ⟨i025, hi025, _, hsz25, _⟩ := info_parts info5; have hroom25 : y521.length ≤ c24 := (Kd.V_reads' HO525.out).2.1; have hC25 : Kd.F (Kd.int .u8) _ _ A24 y521.length y521 := (Kd.V_at (base := w.heap.size) HO525.out).2.2; have q025 : (0 : Int) ≤ (t527 : Int) := of_decide_eq_true (by first | (with_reducible assumption) | assumption); have hcut25 := cut_from (P := Try.prog) 63 5 .i64 Try.underlying63 hi025 1 hsz25 A24 y521.length c24 t527 q025 q25; have hr25 := Kd.F_cut (m := (t527 : Int).toNat) (c := c24) hC25 (by omega) hroom25; obtain ⟨A25, hA25⟩ : ∃ A1, A1 = (if c24 = (t527 : Int).toNat then A24 else (A24 : Option Addr).map (·.add ((t527 : Int).toNat * 1))) := ⟨_, rfl⟩; obtain ⟨c25, hc25⟩ : ∃ c1, c1 = c24 - (t527 : Int).toNat := ⟨_, rfl⟩; have hy25 : y529.length = y521.length - (t527 : Int).toNat := (by rw [Ny529.out, List.length_drop] <;> omega); rw [show (y521).drop (t527 : Int).toNat = y529 from Ny529.out.symm] at hr25; replace hr25 : Kd.F (Kd.int .u8) _ _ A25 y529.length y529 := (by rw [hA25]; exact hr25); rw [← hy25, ← hA25, ← hc25] at hcut25; have HO533 := Aside0.mk (show Kd.V (Kd.int .u8) 5 _ w.heap.size _ (.slice A25 y529.length c25) y529 from Kd.V_mk (by rw [hy25, hc25]; exact Nat.sub_le_sub_right hroom25 _) hr25); have HC533 := Aside0.mk (show y529.length ≤ c25 from by rw [hy25, hc25]; exact Nat.sub_le_sub_right hroom25 _); clear hr25 hC25 hroom25 hi025 hsz25 hc25; have KY25 := Aside0.mk hy25; have KA25 := Aside0.mk hA25; clear hy25 hA25; replace q25 := eq_true q25; have q26 : (t526 : Int) ≤ ((y529.length : Int) : Int) := of_decide_eq_true (by first | (with_reducible assumption) | assumption); obtain ⟨i026, hi026, _, hsz26, _⟩ := info_parts info5; have hroom26 : y529.length ≤ c25 := (Kd.V_reads' HO533.out).2.1; have hC26 : Kd.F (Kd.int .u8) _ _ A25 y529.length y529 := (Kd.V_at (base := w.heap.size) HO533.out).2.2; have hcut26 := cut_to (P := Try.prog) 63 5 .u64 Try.underlying63 hi026 A25 y529.length c25 t526 (of_decide_eq_true (by first | (with_reducible assumption) | assumption)) q26 hroom26; have hr26 := Kd.F_take (m := (t526 : Int).toNat) hC26 (by omega); have hy26 : y534.length = (t526 : Int).toNat := (by rw [Ny534.out, List.length_take]; omega); rw [← Ny534.out] at hr26; rw [← hy26] at hcut26; have HO538 := Aside0.mk (show Kd.V (Kd.int .u8) 5 _ w.heap.size _ (.slice A25 y534.length c25) y534 from Kd.V_mk (by omega) hr26); have HC538 := Aside0.mk (show y534.length ≤ c25 from by omega); clear hr26 hC26 hroom26 hi026 hsz26; have KY26 := Aside0.mk hy26; clear hy26; replace q26 := eq_true q26) | ((with_reducible refine gate_callee (f := 77) rfl ?_); refine goesL_ (some 65) rfl rfl Try.func77 (by kernel_rfl) rfl #[.int .i64 (wrap64 (Go.bits .and .u64 t518 7)), .slice A25 y534.length c25] rfl (by (try simp only [List.map_toArray, List.map_cons, List.map_nil]); first | done | rfl | (simp only [List.length_drop, List.length_take]; rfl)) ?_; (with_reducible refine (tlv_value.calls kj3 (wrap64 (Go.bits .and .u64 t518 7)) _ _ y534 t539 t540 t541 t542 _ ?side1 ?side2 A21.out).mono ?_); (case side1 => repeat (first | exact (Kd.V_reads' HO538.out).2.2 | (with_reducible refine Kd.C_alloc ?_ _) | (with_reducible refine Kd.C_drewN ?_ _) | (with_reducible refine Kd.C_drew ?_))); (case side2 => exact (Kd.V_reads' HO538.out).2.1); rintro e w27 ⟨rfl, hb⟩; refine ⟨_, rfl, ?_⟩; have n0_ := Aside0.mk (Kd.V_below (by (with_reducible repeat (first | apply Kd.V_alloc | apply Kd.V_drewN | apply Kd.V_drew)); exact HO_0.out) hb); have n1_ := Aside0.mk (Kd.V_below (by (with_reducible repeat (first | apply Kd.V_alloc | apply Kd.V_drewN | apply Kd.V_drew)); exact HO525.out) hb); have n2_ := Aside0.mk (Kd.V_below (by (with_reducible repeat (first | apply Kd.V_alloc | apply Kd.V_drewN | apply Kd.V_drew)); exact HO533.out) hb); have n3_ := Aside0.mk (Kd.V_below (by (with_reducible repeat (first | apply Kd.V_alloc | apply Kd.V_drewN | apply Kd.V_drew)); exact HO538.out) hb); have n4_ := Aside0.mk (blk_below (g := gb517) (o := .cells #[.int .i64 0, .int .i64 0, .int .u64 0, .string (⟨#[]⟩ : ByteArray)] 53 (0, 0)) (by (with_reducible repeat (first | refine blk_drewN ?_ _ | refine blk_drew ?_ | refine blk_alloc ?_ _)); exact BK517.out) hb); have n5_ := Aside0.mk (below_step (by repeat (first | (with_reducible first | exact HB.out | apply below_alloc | apply pw_below_drewN | apply below_drew1 | refine below_set ?_ GE517.out) | exact HB.out)) hb); clear HO_0; clear HO525; clear HO533; clear HO538; clear BK517; clear HB; have HO_0 := n0_; have HO525 := n1_; have HO533 := n2_; have HO538 := n3_; have BK517 := n4_; have HB := n5_; clear n0_ n1_ n2_ n3_ n4_ n5_; (try clear hb); (try clear hb2); (try clear hk); (try clear hi)) | ((with_reducible refine gate_dst (N := 11) rfl ?_); (try (refine gate_guard (by rfl) ?_; dsimp only)); refine box_event ?hg (N := 11) ?hd (cs := #[.int .i64 0, .int .u64 0, .string (⟨#[]⟩ : ByteArray)]) (t := 51) ?hr ?_; (case hd => rfl); (case hg => rfl); (case hr => first | (go_simp; done) | (go_simp; rfl)); intro gb543 hg w28 hbox hb; have n0_ := Aside0.mk (Kd.V_below (Kd.V_elderB (by (with_reducible repeat (first | apply Kd.V_alloc | apply Kd.V_drewN | apply Kd.V_drew)); exact HO_0.out) gb543 (Nat.le_of_eq hg.symm)) hb); have n1_ := Aside0.mk (Kd.V_below (Kd.V_elderB (by (with_reducible repeat (first | apply Kd.V_alloc | apply Kd.V_drewN | apply Kd.V_drew)); exact HO525.out) gb543 (Nat.le_of_eq hg.symm)) hb); have n2_ := Aside0.mk (Kd.V_below (Kd.V_elderB (by (with_reducible repeat (first | apply Kd.V_alloc | apply Kd.V_drewN | apply Kd.V_drew)); exact HO533.out) gb543 (Nat.le_of_eq hg.symm)) hb); have n3_ := Aside0.mk (Kd.V_below (Kd.V_elderB (by (with_reducible repeat (first | apply Kd.V_alloc | apply Kd.V_drewN | apply Kd.V_drew)); exact HO538.out) gb543 (Nat.le_of_eq hg.symm)) hb); have n4_ := Aside0.mk (blk_below (g := gb517) (o := .cells #[.int .i64 0, .int .i64 0, .int .u64 0, .string (⟨#[]⟩ : ByteArray)] 53 (0, 0)) (by (with_reducible repeat (first | refine blk_drewN ?_ _ | refine blk_drew ?_ | refine blk_alloc ?_ _)); exact BK517.out) hb); have n5_ := Aside0.mk (below_step (by repeat (first | (with_reducible first | exact HB.out | apply below_alloc | apply pw_below_drewN | apply below_drew1 | refine below_set ?_ GE517.out) | exact HB.out)) hb); have n6_ := Aside0.mk (hbox); have n7_ := Aside0.mk ((by rw [hg]; exact (below_size (by repeat (first | (with_reducible first | exact HB.out | apply below_alloc | apply pw_below_drewN | apply below_drew1 | refine below_set ?_ GE517.out) | exact HB.out))) : w.heap.size ≤ gb543)); have n8_ := Aside0.mk ((by rw [hg]; exact (below_size (by repeat (first | (with_reducible first | exact HB.out | apply below_alloc | apply pw_below_drewN | apply below_drew1 | refine below_set ?_ GE517.out) | exact HB.out))) : w.heap.size ≤ gb543)); have n9_ := Aside0.mk ((by rw [hg]; exact Nat.ne_of_lt (blk_lt (g := gb517) (o := .cells #[.int .i64 0, .int .i64 0, .int .u64 0, .string (⟨#[]⟩ : ByteArray)] 53 (0, 0)) (by (with_reducible repeat (first | refine blk_drewN ?_ _ | refine blk_drew ?_ | refine blk_alloc ?_ _)); exact BK517.out)) : gb517 ≠ gb543)); have n10_ := Aside0.mk ((by rw [hg]; exact Nat.ne_of_gt (blk_lt (g := gb517) (o := .cells #[.int .i64 0, .int .i64 0, .int .u64 0, .string (⟨#[]⟩ : ByteArray)] 53 (0, 0)) (by (with_reducible repeat (first | refine blk_drewN ?_ _ | refine blk_drew ?_ | refine blk_alloc ?_ _)); exact BK517.out)) : gb543 ≠ gb517)); clear HO_0; clear HO525; clear HO533; clear HO538; clear BK517; clear HB; have HO_0 := n0_; have HO525 := n1_; have HO533 := n2_; have HO538 := n3_; have BK517 := n4_; have HB := n5_; have BK543 := n6_; have GW543 := n7_; have GE543 := n8_; have NB517_543 := n9_; have NB543_517 := n10_; clear n0_ n1_ n2_ n3_ n4_ n5_ n6_ n7_ n8_ n9_ n10_; clear hb hbox hg; have hnb29 := NB543_517.out; have hnc29 := NB517_543.out; have hcz30_0 : w28.cell? ⟨gb543, 0, none⟩ = some (.int .i64 0) := (blk_cell BK543.out 0).trans rfl; have hcz30_1 : w28.cell? ⟨gb543, 1, none⟩ = some (.int .u64 0) := (blk_cell BK543.out 1).trans rfl; have hcz30_2 : w28.cell? ⟨gb543, 2, none⟩ = some (.string (⟨#[]⟩ : ByteArray)) := (blk_cell BK543.out 2).trans rfl; have hfz30_0 := blk_frozen BK543.out 0; have hfz30_1 := blk_frozen BK543.out 1; have hfz30_2 := blk_frozen BK543.out 2))
            have n0_ : Aside0 (Kd.V (Kd.int .u8) 5 (((w28.setCell ⟨gb543, 0, none⟩ (.int .i64 t539)).setCell ⟨gb543, 1, none⟩ (.int .u64 t540)).setCell ⟨gb543, 2, none⟩ (.string t541)) w.heap.size (fun k_ => (P0_ k_ ∨ w.heap.size ≤ k_) ∧ k_ ≠ gb517 ∧ k_ ≠ gb543) (.slice A0 l0.length c0) l0) := ⟨by (with_reducible repeat (first | apply Kd.V_alloc | apply Kd.V_drewN | apply Kd.V_drew)); exact Kd.V_mono (Kd.V_far (p := ⟨gb543, 2, none⟩) (Kd.V_far (p := ⟨gb543, 1, none⟩) (Kd.V_far (p := ⟨gb543, 0, none⟩) (Kd.V_mono HO_0.out (fun k_ hk => (⟨hk, hk.2⟩ : _ ∧ k_ ≠ gb543))) (fun _ hk => hk.2) (.int .i64 t539)) (fun _ hk => hk.2) (.int .u64 t540)) (fun _ hk => hk.2) (.string t541)) (fun _ hk => ⟨hk.1.1.1, ⟨hk.1.1.2, hk.1.2⟩⟩)⟩
            have n1_ : Aside0 (Kd.V (Kd.int .u8) 5 (((w28.setCell ⟨gb543, 0, none⟩ (.int .i64 t539)).setCell ⟨gb543, 1, none⟩ (.int .u64 t540)).setCell ⟨gb543, 2, none⟩ (.string t541)) w.heap.size (fun k_ => (P0_ k_ ∨ w.heap.size ≤ k_) ∧ k_ ≠ gb517 ∧ k_ ≠ gb543) (.slice A24 y521.length c24) y521) := ⟨by (with_reducible repeat (first | apply Kd.V_alloc | apply Kd.V_drewN | apply Kd.V_drew)); exact Kd.V_mono (Kd.V_far (p := ⟨gb543, 2, none⟩) (Kd.V_far (p := ⟨gb543, 1, none⟩) (Kd.V_far (p := ⟨gb543, 0, none⟩) (Kd.V_mono HO525.out (fun k_ hk => (⟨hk, hk.2⟩ : _ ∧ k_ ≠ gb543))) (fun _ hk => hk.2) (.int .i64 t539)) (fun _ hk => hk.2) (.int .u64 t540)) (fun _ hk => hk.2) (.string t541)) (fun _ hk => ⟨hk.1.1.1, ⟨hk.1.1.2, hk.1.2⟩⟩)⟩
            have n2_ : Aside0 (Kd.V (Kd.int .u8) 5 (((w28.setCell ⟨gb543, 0, none⟩ (.int .i64 t539)).setCell ⟨gb543, 1, none⟩ (.int .u64 t540)).setCell ⟨gb543, 2, none⟩ (.string t541)) w.heap.size (fun k_ => (P0_ k_ ∨ w.heap.size ≤ k_) ∧ k_ ≠ gb517 ∧ k_ ≠ gb543) (.slice A25 y529.length c25) y529) := ⟨by (with_reducible repeat (first | apply Kd.V_alloc | apply Kd.V_drewN | apply Kd.V_drew)); exact Kd.V_mono (Kd.V_far (p := ⟨gb543, 2, none⟩) (Kd.V_far (p := ⟨gb543, 1, none⟩) (Kd.V_far (p := ⟨gb543, 0, none⟩) (Kd.V_mono HO533.out (fun k_ hk => (⟨hk, hk.2⟩ : _ ∧ k_ ≠ gb543))) (fun _ hk => hk.2) (.int .i64 t539)) (fun _ hk => hk.2) (.int .u64 t540)) (fun _ hk => hk.2) (.string t541)) (fun _ hk => ⟨hk.1.1.1, ⟨hk.1.1.2, hk.1.2⟩⟩)⟩
            have n3_ : Aside0 (Kd.V (Kd.int .u8) 5 (((w28.setCell ⟨gb543, 0, none⟩ (.int .i64 t539)).setCell ⟨gb543, 1, none⟩ (.int .u64 t540)).setCell ⟨gb543, 2, none⟩ (.string t541)) w.heap.size (fun k_ => (P0_ k_ ∨ w.heap.size ≤ k_) ∧ k_ ≠ gb517 ∧ k_ ≠ gb543) (.slice A25 y534.length c25) y534) := ⟨by (with_reducible repeat (first | apply Kd.V_alloc | apply Kd.V_drewN | apply Kd.V_drew)); exact Kd.V_mono (Kd.V_far (p := ⟨gb543, 2, none⟩) (Kd.V_far (p := ⟨gb543, 1, none⟩) (Kd.V_far (p := ⟨gb543, 0, none⟩) (Kd.V_mono HO538.out (fun k_ hk => (⟨hk, hk.2⟩ : _ ∧ k_ ≠ gb543))) (fun _ hk => hk.2) (.int .i64 t539)) (fun _ hk => hk.2) (.int .u64 t540)) (fun _ hk => hk.2) (.string t541)) (fun _ hk => ⟨hk.1.1.1, ⟨hk.1.1.2, hk.1.2⟩⟩)⟩
            have n4_ : Aside0 ((((w28.setCell ⟨gb543, 0, none⟩ (.int .i64 t539)).setCell ⟨gb543, 1, none⟩ (.int .u64 t540)).setCell ⟨gb543, 2, none⟩ (.string t541)).heap[gb517]? = some (.cells #[.int .i64 0, .int .i64 0, .int .u64 0, .string (⟨#[]⟩ : ByteArray)] 53 (0, 0))) := ⟨by (with_reducible repeat (first | refine blk_drewN ?_ _ | refine blk_drew ?_ | refine blk_alloc ?_ _)); refine blk_far ?_ NB517_543.out _; (with_reducible repeat (first | refine blk_drewN ?_ _ | refine blk_drew ?_ | refine blk_alloc ?_ _)); refine blk_far ?_ NB517_543.out _; (with_reducible repeat (first | refine blk_drewN ?_ _ | refine blk_drew ?_ | refine blk_alloc ?_ _)); refine blk_far ?_ NB517_543.out _; (with_reducible repeat (first | refine blk_drewN ?_ _ | refine blk_drew ?_ | refine blk_alloc ?_ _)); exact BK517.out⟩
            have n5_ : Aside0 ((((w28.setCell ⟨gb543, 0, none⟩ (.int .i64 t539)).setCell ⟨gb543, 1, none⟩ (.int .u64 t540)).setCell ⟨gb543, 2, none⟩ (.string t541)).heap[gb543]? = some (.cells #[.int .i64 t539, .int .u64 t540, .string t541] 51 (0, 0))) := ⟨by (with_reducible repeat (first | refine blk_drewN ?_ _ | refine blk_drew ?_ | refine blk_alloc ?_ _)); refine blk_put (cs := #[.int .i64 t539, .int .u64 t540, .string (⟨#[]⟩ : ByteArray)]) ?_ 2 _ rfl; (with_reducible repeat (first | refine blk_drewN ?_ _ | refine blk_drew ?_ | refine blk_alloc ?_ _)); refine blk_put (cs := #[.int .i64 t539, .int .u64 0, .string (⟨#[]⟩ : ByteArray)]) ?_ 1 _ rfl; (with_reducible repeat (first | refine blk_drewN ?_ _ | refine blk_drew ?_ | refine blk_alloc ?_ _)); refine blk_put (cs := #[.int .i64 0, .int .u64 0, .string (⟨#[]⟩ : ByteArray)]) ?_ 0 _ rfl; (with_reducible repeat (first | refine blk_drewN ?_ _ | refine blk_drew ?_ | refine blk_alloc ?_ _)); exact BK543.out⟩
            have n6_ : Aside0 (Below w.heap.size w (((w28.setCell ⟨gb543, 0, none⟩ (.int .i64 t539)).setCell ⟨gb543, 1, none⟩ (.int .u64 t540)).setCell ⟨gb543, 2, none⟩ (.string t541))) := ⟨by repeat (first | (with_reducible first | exact HB.out | apply below_alloc | apply pw_below_drewN | apply below_drew1 | refine below_set ?_ GE517.out | refine below_set ?_ GE543.out) | exact HB.out)⟩
            (try clear HO_0)
            (try clear HO525)
            (try clear HO533)
            (try clear HO538)
            (try clear BK517)
            (try clear BK543)
            (try clear HB)
            (try simp only [show ∀ (w_ : World) (n_ : Nat) (p_ : Addr) (u_ : Value), (w_.drewN n_).setCell p_ u_ = (w_.setCell p_ u_).drewN n_ from fun _ _ _ _ => rfl])
            generalize (((w28.setCell ⟨gb543, 0, none⟩ (.int .i64 t539)).setCell ⟨gb543, 1, none⟩ (.int .u64 t540)).setCell ⟨gb543, 2, none⟩ (.string t541)) = w31 at n0_ n1_ n2_ n3_ n4_ n5_ n6_ ⊢
            have HO_0 := n0_
            have HO525 := n1_
            have HO533 := n2_
            have HO538 := n3_
            have BK517 := n4_
            have BK543 := n5_
            have HB := n6_
            clear n0_ n1_ n2_ n3_ n4_ n5_ n6_
            have n0_ := Aside0.mk (Kd.V_drew HO_0.out)
            have n1_ := Aside0.mk (Kd.V_drew HO525.out)
            have n2_ := Aside0.mk (Kd.V_drew HO533.out)
            have n3_ := Aside0.mk (Kd.V_drew HO538.out)
            have n4_ := Aside0.mk (blk_drew BK517.out)
            have n5_ := Aside0.mk (blk_drew BK543.out)
            have n6_ := Aside0.mk (below_drew1 HB.out)
            clear HO_0
            clear HO525
            clear HO533
            clear HO538
            clear BK517
            clear BK543
            clear HB
            have HO_0 := n0_
            have HO525 := n1_
            have HO533 := n2_
            have HO538 := n3_
            have BK517 := n4_
            have BK543 := n5_
            have HB := n6_
            clear n0_ n1_ n2_ n3_ n4_ n5_ n6_
            have q33 : (t526 : Int) ≤ ((y529.length : Int) : Int) := of_decide_eq_true (by first | (with_reducible assumption) | assumption)
            obtain ⟨i033, hi033, _, hsz33, _⟩ := info_parts info5
            have hroom33 : y529.length ≤ c25 := (Kd.V_reads' HO533.out).2.1
            have hC33 : Kd.F (Kd.int .u8) _ _ A25 y529.length y529 := (Kd.V_at (base := w.heap.size) HO533.out).2.2
            have q033 : (0 : Int) ≤ (t526 : Int) := of_decide_eq_true (by first | (with_reducible assumption) | assumption)
            have hcut33 := cut_from (P := Try.prog) 63 5 .u64 Try.underlying63 hi033 1 hsz33 A25 y529.length c25 t526 q033 q33
            have hr33 := Kd.F_cut (m := (t526 : Int).toNat) (c := c25) hC33 (by omega) hroom33
            obtain ⟨A33, hA33⟩ : ∃ A1, A1 = (if c25 = (t526 : Int).toNat then A25 else (A25 : Option Addr).map (·.add ((t526 : Int).toNat * 1))) := ⟨_, rfl⟩
            obtain ⟨c33, hc33⟩ : ∃ c1, c1 = c25 - (t526 : Int).toNat := ⟨_, rfl⟩
            have hy33 : y544.length = y529.length - (t526 : Int).toNat := (by rw [Ny544.out, List.length_drop] <;> omega)
            rw [show (y529).drop (t526 : Int).toNat = y544 from Ny544.out.symm] at hr33
            replace hr33 : Kd.F (Kd.int .u8) _ _ A33 y544.length y544 := (by rw [hA33]; exact hr33)
            rw [← hy33, ← hA33, ← hc33] at hcut33
            have HO548 := Aside0.mk (show Kd.V (Kd.int .u8) 5 _ w.heap.size _ (.slice A33 y544.length c33) y544 from Kd.V_mk (by rw [hy33, hc33]; exact Nat.sub_le_sub_right hroom33 _) hr33)
            have HC548 := Aside0.mk (show y544.length ≤ c33 from by rw [hy33, hc33]; exact Nat.sub_le_sub_right hroom33 _)
            clear hr33 hC33 hroom33 hi033 hsz33 hc33
            have KY33 := Aside0.mk hy33
            have KA33 := Aside0.mk hA33
            clear hy33 hA33
            replace q33 := eq_true q33
            refine start_ (n := 12) (S := fun w' => w'.cell? ⟨gb543, 0, none⟩ = some (.int .i64 t539) ∧ w'.cell? ⟨gb543, 1, none⟩ = some (.int .u64 t540) ∧ w'.cell? ⟨gb543, 2, none⟩ = some (.string t541)) (ds := []) ⟨mk_ 12 0⟩ (by kernel_rfl) rfl rfl ⟨(blk_cell BK543.out 0).trans rfl, (blk_cell BK543.out 1).trans rfl, (blk_cell BK543.out 2).trans rfl⟩ (fun hHeld => ?_); refine with_tabW tlv_field.tab10 tlv_field.bits10 (fun HT_ HW_ => ?_)
            generalize w31.drew = w32 at HO_0 HO525 HO533 HO538 BK517 BK543 HB HO548 hHeld ⊢
            refine pure_ (i := 0) (N := some 68) (v := ?_) (a' := ?_) ⟨mk_ 12 1⟩ rfl rfl (any_of HT_.out (by kernel_rfl)) (fun _ _ _ h => h) (Or.inl ⟨by rfl, ?_⟩) ?_ ?_
            rotate_left
            ·intro w'
             go_simp
             with_reducible rfl
            rotate_left
            ·simp only [Act.put, List.setIfInBounds_toArray, List.set_cons_zero, List.set_cons_succ, i64_w, i32_w]
             rfl
            refine pure_ (i := 1) (N := some 69) (v := ?_) (a' := ?_) ⟨mk_ 12 3⟩ rfl rfl (any_of HT_.out (by kernel_rfl)) (fun _ _ _ h => h) (Or.inl ⟨by rfl, ?_⟩) ?_ ?_
            rotate_left
            ·intro w'
             go_simp
             with_reducible rfl
            rotate_left
            ·simp only [Act.put, List.setIfInBounds_toArray, List.set_cons_zero, List.set_cons_succ, i64_w, i32_w]
             rfl
            refine pure_ (i := 2) (N := some 70) (v := ?_) (a' := ?_) ⟨mk_ 12 7⟩ rfl rfl (any_of HT_.out (by kernel_rfl)) (fun _ _ _ h => h) (Or.inl ⟨by rfl, ?_⟩) ?_ ?_
            rotate_left
            ·intro w'
             go_simp
             with_reducible rfl
            rotate_left
            ·simp only [Act.put, List.setIfInBounds_toArray, List.set_cons_zero, List.set_cons_succ, i64_w, i32_w]
             rfl
            refine pure_ (i := 5) (N := some 73) (v := ?_) (a' := ?_) ⟨mk_ 12 39⟩ rfl rfl (any_of HT_.out (by kernel_rfl)) (fun _ _ _ h => h) (Or.inl ⟨by rfl, ?_⟩) ?_ ?_
            rotate_left
            ·intro w'
             go_simp
             with_reducible rfl
            rotate_left
            ·simp only [Act.put, List.setIfInBounds_toArray, List.set_cons_zero, List.set_cons_succ, i64_w, i32_w]
             rfl
            refine pure_ (i := 6) (N := some 74) (v := ?_) (a' := ?_) ⟨mk_ 12 103⟩ rfl rfl (any_of HT_.out (by kernel_rfl)) (fun _ _ _ h => h) (Or.inl ⟨by rfl, ?_⟩) ?_ ?_
            rotate_left
            ·intro w'
             go_simp
             with_reducible rfl
            rotate_left
            ·simp only [Act.put, List.setIfInBounds_toArray, List.set_cons_zero, List.set_cons_succ, i64_w, i32_w]
             rfl
            refine pure_ (i := 7) (N := some 75) (v := ?_) (a' := ?_) ⟨mk_ 12 231⟩ rfl rfl (any_of HT_.out (by kernel_rfl)) (fun _ _ _ h => h) (Or.inl ⟨by rfl, ?_⟩) ?_ ?_
            rotate_left
            ·intro w'
             go_simp
             with_reducible rfl
            rotate_left
            ·simp only [Act.put, List.setIfInBounds_toArray, List.set_cons_zero, List.set_cons_succ, i64_w, i32_w]
             rfl
            refine pure_ (i := 8) (N := some 76) (v := ?_) (a' := ?_) ⟨mk_ 12 487⟩ rfl rfl (any_of HT_.out (by kernel_rfl)) (fun _ _ _ h => h) (Or.inl ⟨by rfl, ?_⟩) ?_ ?_
            rotate_left
            ·intro w'
             go_simp
             with_reducible rfl
            rotate_left
            ·simp only [Act.put, List.setIfInBounds_toArray, List.set_cons_zero, List.set_cons_succ, i64_w, i32_w]
             rfl
            refine take_ (i := 3) (N := some 71) (v := ?_) (a' := ?_) ⟨mk_ 12 495⟩ rfl rfl (take_ofW HT_.out HW_.out (by kernel_rfl)) (fun _ _ _ h => h) (Or.inl ⟨by rfl, ?_⟩) hHeld ?_ ?_
            rotate_left
            ·rintro w' ⟨s0, s1, s2⟩
             go_simp
             with_reducible rfl
            rotate_left
            ·simp only [Act.put, List.setIfInBounds_toArray, List.set_cons_zero, List.set_cons_succ, i64_w, i32_w]
             rfl
            refine pure_ (i := 4) (N := some 72) (v := ?_) (a' := ?_) ⟨mk_ 12 511⟩ rfl rfl (any_of HT_.out (by kernel_rfl)) (fun _ _ _ h => h) (Or.inl ⟨by rfl, ?_⟩) ?_ ?_
            rotate_left
            ·intro w'
             go_simp
             with_reducible rfl
            rotate_left
            ·simp only [Act.put, List.setIfInBounds_toArray, List.set_cons_zero, List.set_cons_succ, i64_w, i32_w]
             rfl
            refine one_ (i := 9) (N := none) ⟨mk_ 12 1023⟩ rfl rfl (one_of HT_.out (by kernel_rfl)) (by decide) (fun K hK => ?_)
            have hs34 : w32.cell? ⟨gb517, 0, none⟩ = some (.int .i64 0) := (blk_cell BK517.out 0).trans rfl
            have hfs34 := blk_frozen BK517.out 0
            have hns34_1 := NB543_517.out
            have hms34_1 := NB517_543.out
            have hs35 : w32.cell? ⟨gb517, 1, none⟩ = some (.int .i64 0) := (blk_cell BK517.out 1).trans rfl
            have hfs35 := blk_frozen BK517.out 1
            have hns35_1 := NB543_517.out
            have hms35_1 := NB517_543.out
            have hs36 : w32.cell? ⟨gb517, 2, none⟩ = some (.int .u64 0) := (blk_cell BK517.out 2).trans rfl
            have hfs36 := blk_frozen BK517.out 2
            have hns36_1 := NB543_517.out
            have hms36_1 := NB517_543.out
            have hs37 : w32.cell? ⟨gb517, 3, none⟩ = some (.string (⟨#[]⟩ : ByteArray)) := (blk_cell BK517.out 3).trans rfl
            have hfs37 := blk_frozen BK517.out 3
            have hns37_1 := NB543_517.out
            have hms37_1 := NB517_543.out
            refine skip_ (w1 := ?_) (by rfl) rfl ?_ ?_
            rotate_left
            ·go_simp
             rfl
            refine hK.out _ _ ⟨((cell_far (p := ⟨gb517, _, none⟩) NB543_517.out _).trans (((cell_far (p := ⟨gb517, _, none⟩) NB543_517.out _).trans (((cell_far (p := ⟨gb517, _, none⟩) NB543_517.out _).trans (((cell_far (p := ⟨gb517, _, none⟩) NB543_517.out _).trans (hHeld.1)))))))), ((cell_far (p := ⟨gb517, _, none⟩) NB543_517.out _).trans (((cell_far (p := ⟨gb517, _, none⟩) NB543_517.out _).trans (((cell_far (p := ⟨gb517, _, none⟩) NB543_517.out _).trans (((cell_far (p := ⟨gb517, _, none⟩) NB543_517.out _).trans (hHeld.2.1)))))))), ((cell_far (p := ⟨gb517, _, none⟩) NB543_517.out _).trans (((cell_far (p := ⟨gb517, _, none⟩) NB543_517.out _).trans (((cell_far (p := ⟨gb517, _, none⟩) NB543_517.out _).trans (((cell_far (p := ⟨gb517, _, none⟩) NB543_517.out _).trans (hHeld.2.2))))))))⟩ (fun hHeld => ?_)
            clear hK K
            refine pure_ (i := 10) (N := some 5) (v := ?_) (a' := ?_) ⟨mk_ 12 2047⟩ rfl rfl (any_of HT_.out (by kernel_rfl)) (fun _ _ _ h => h) (Or.inl ⟨by rfl, ?_⟩) ?_ ?_
            rotate_left
            ·intro w'
             go_simp
             with_reducible rfl
            rotate_left
            ·simp only [Act.put, List.setIfInBounds_toArray, List.set_cons_zero, List.set_cons_succ, i64_w, i32_w]
             rfl
            refine pure_ (i := 11) (N := some 6) (v := ?_) (a' := ?_) ⟨mk_ 12 4095⟩ rfl rfl (any_of HT_.out (by kernel_rfl)) (fun _ _ _ h => h) (Or.inl ⟨by rfl, ?_⟩) ?_ ?_
            rotate_left
            ·intro w'
             go_simp
             with_reducible rfl
            rotate_left
            ·simp only [Act.put, List.setIfInBounds_toArray, List.set_cons_zero, List.set_cons_succ, i64_w, i32_w]
             rfl
            refine done_ (done_of HT_.out (by kernel_rfl)) ?_
            try go_wp2
            refine bodyPost_ret (results_ctt rfl _ _ gb517 53 #[.int .i64 (wrap64 (t518 / 8)), .int .i64 t539, .int .u64 t540, .string t541] (0, 0) _ rfl (by (with_reducible repeat (first | refine blk_drewN ?_ _ | refine blk_drew ?_ | refine blk_alloc ?_ _)); refine blk_put (cs := #[.int .i64 (wrap64 (t518 / 8)), .int .i64 t539, .int .u64 t540, .string (⟨#[]⟩ : ByteArray)]) ?_ 3 _ rfl; (with_reducible repeat (first | refine blk_drewN ?_ _ | refine blk_drew ?_ | refine blk_alloc ?_ _)); refine blk_put (cs := #[.int .i64 (wrap64 (t518 / 8)), .int .i64 t539, .int .u64 0, .string (⟨#[]⟩ : ByteArray)]) ?_ 2 _ rfl; (with_reducible repeat (first | refine blk_drewN ?_ _ | refine blk_drew ?_ | refine blk_alloc ?_ _)); refine blk_put (cs := #[.int .i64 (wrap64 (t518 / 8)), .int .i64 0, .int .u64 0, .string (⟨#[]⟩ : ByteArray)]) ?_ 1 _ rfl; (with_reducible repeat (first | refine blk_drewN ?_ _ | refine blk_drew ?_ | refine blk_alloc ?_ _)); refine blk_put (cs := #[.int .i64 0, .int .i64 0, .int .u64 0, .string (⟨#[]⟩ : ByteArray)]) ?_ 0 _ rfl; (with_reducible repeat (first | refine blk_drewN ?_ _ | refine blk_drew ?_ | refine blk_alloc ?_ _)); exact BK517.out) Try.underlying53 rfl (by kernel_rfl)) rfl ?_
            exact ⟨_, by first | rfl | (simp [errW_none, errW_some] <;> rfl) | (simp [*, errW_none, errW_some] <;> rfl), by (with_reducible repeat (first | apply Kd.V_alloc | apply Kd.V_drewN | apply Kd.V_drew)); exact Kd.V_mono (Kd.V_far (p := ⟨gb517, 3, none⟩) (Kd.V_far (p := ⟨gb517, 2, none⟩) (Kd.V_far (p := ⟨gb517, 1, none⟩) (Kd.V_far (p := ⟨gb517, 0, none⟩) (Kd.V_mono HO548.out (fun k_ hk => (⟨hk, hk.2.1⟩ : _ ∧ k_ ≠ gb517))) (fun _ hk => hk.2) (.int .i64 (wrap64 (t518 / 8)))) (fun _ hk => hk.2) (.int .i64 t539)) (fun _ hk => hk.2) (.int .u64 t540)) (fun _ hk => hk.2) (.string t541)) (fun _ hk => hk.1.1), by repeat (first | (with_reducible first | exact HB.out | apply below_alloc | apply pw_below_drewN | apply below_drew1 | refine below_set ?_ GE517.out | refine below_set ?_ GE543.out) | exact HB.out)⟩
           ·rw [if_neg c20] at H
            exact absurd H (by simp)
          ·rw [if_neg c19] at H
           exact absurd H (by simp)
         ·rw [if_neg c18] at H
          exact absurd H (by simp)
        ·rw [if_neg c17] at H
         exact absurd H (by simp)
      ·rw [if_neg c13] at H
       have c13b0 : (t528 == 0) = false := beq_eq_false_iff_ne.mpr c13
       have c13b1 : (t528 != 0) = true := bne_iff_ne.mpr c13
       simp only [Option.some.injEq, Prod.mk.injEq] at H
       obtain ⟨rfl, rfl, rfl, rfl, rfl, rfl⟩ := H
       have q38 : (t519 : Int) ≤ ((l0.length : Int) : Int) := of_decide_eq_true (by first | (with_reducible assumption) | assumption)
       obtain ⟨i038, hi038, _, hsz38, _⟩ := info_parts info5
       have hroom38 : l0.length ≤ c0 := (Kd.V_reads' HO_0.out).2.1
       have hC38 : Kd.F (Kd.int .u8) _ _ A0 l0.length l0 := (Kd.V_at (base := w.heap.size) HO_0.out).2.2
       have q038 : (0 : Int) ≤ (t519 : Int) := of_decide_eq_true (by first | (with_reducible assumption) | assumption)
       have hcut38 := cut_from (P := Try.prog) 63 5 .i64 Try.underlying63 hi038 1 hsz38 A0 l0.length c0 t519 q038 q38
       have hr38 := Kd.F_cut (m := (t519 : Int).toNat) (c := c0) hC38 (by omega) hroom38
       obtain ⟨A38, hA38⟩ : ∃ A1, A1 = (if c0 = (t519 : Int).toNat then A0 else (A0 : Option Addr).map (·.add ((t519 : Int).toNat * 1))) := ⟨_, rfl⟩
       obtain ⟨c38, hc38⟩ : ∃ c1, c1 = c0 - (t519 : Int).toNat := ⟨_, rfl⟩
       have hy38 : y521.length = l0.length - (t519 : Int).toNat := (by rw [Ny521.out, List.length_drop] <;> omega)
       rw [show (l0).drop (t519 : Int).toNat = y521 from Ny521.out.symm] at hr38
       replace hr38 : Kd.F (Kd.int .u8) _ _ A38 y521.length y521 := (by rw [hA38]; exact hr38)
       rw [← hy38, ← hA38, ← hc38] at hcut38
       have HO525 := Aside0.mk (show Kd.V (Kd.int .u8) 5 _ w.heap.size _ (.slice A38 y521.length c38) y521 from Kd.V_mk (by rw [hy38, hc38]; exact Nat.sub_le_sub_right hroom38 _) hr38)
       have HC525 := Aside0.mk (show y521.length ≤ c38 from by rw [hy38, hc38]; exact Nat.sub_le_sub_right hroom38 _)
       clear hr38 hC38 hroom38 hi038 hsz38 hc38
       have KY38 := Aside0.mk hy38
       have KA38 := Aside0.mk hA38
       clear hy38 hA38
       replace q38 := eq_true q38
       go_wp2_with (first | ((with_reducible refine gate_callee (f := 76) rfl ?_); refine goesL_ (some 39) rfl rfl Try.func76 (by kernel_rfl) rfl #[.slice A38 y521.length c38] rfl (by (try simp only [List.map_toArray, List.map_cons, List.map_nil]); first | done | rfl | (simp only [List.length_drop, List.length_take]; rfl)) ?_; (with_reducible refine (varint_Take.calls kj3 _ _ y521 t526 t527 t528 _ ?side1 ?side2 A12.out).mono ?_); (case side1 => repeat (first | exact (Kd.V_reads' HO525.out).2.2 | (with_reducible refine Kd.C_alloc ?_ _) | (with_reducible refine Kd.C_drewN ?_ _) | (with_reducible refine Kd.C_drew ?_))); (case side2 => exact (Kd.V_reads' HO525.out).2.1); rintro e w' ⟨rfl, ⟨nd, rfl⟩⟩; refine ⟨_, rfl, ?_⟩; (try (rw [drewN_self wc]; generalize hq_ : World.drewN wc _ = wc; have n0_ : Aside0 (Kd.V (Kd.int .u8) 5 wc w.heap.size (fun k_ => (P0_ k_ ∨ w.heap.size ≤ k_) ∧ k_ ≠ gb517) (.slice A38 y521.length c38) y521) := ⟨by rw [← hq_]; exact (by (with_reducible repeat (first | apply Kd.V_alloc | apply Kd.V_drewN | apply Kd.V_drew)); exact HO525.out)⟩; have n1_ : Aside0 (Kd.V (Kd.int .u8) 5 wc w.heap.size (fun k_ => (P0_ k_ ∨ w.heap.size ≤ k_) ∧ k_ ≠ gb517) (.slice A0 l0.length c0) l0) := ⟨by rw [← hq_]; exact (by (with_reducible repeat (first | apply Kd.V_alloc | apply Kd.V_drewN | apply Kd.V_drew)); exact HO_0.out)⟩; have n2_ : Aside0 (wc.heap[gb517]? = some (.cells #[.int .i64 0, .int .i64 0, .int .u64 0, .string (⟨#[]⟩ : ByteArray)] 53 (0, 0))) := ⟨by rw [← hq_]; exact (by (with_reducible repeat (first | refine blk_drewN ?_ _ | refine blk_drew ?_ | refine blk_alloc ?_ _)); exact BK517.out)⟩; have n3_ : Aside0 (Below w.heap.size w wc) := ⟨by rw [← hq_]; exact (by repeat (first | (with_reducible first | exact HB.out | apply below_alloc | apply pw_below_drewN | apply below_drew1 | refine below_set ?_ GE517.out) | exact HB.out))⟩; clear HO525 HO_0 BK517 HB hq_; have HO525 := n0_; have HO_0 := n1_; have BK517 := n2_; have HB := n3_; clear n0_ n1_ n2_ n3_)); have hcz39_0 : wc.cell? ⟨gb517, 0, none⟩ = some (.int .i64 0) := (blk_cell BK517.out 0).trans rfl; have hcz39_1 : wc.cell? ⟨gb517, 1, none⟩ = some (.int .i64 0) := (blk_cell BK517.out 1).trans rfl; have hcz39_2 : wc.cell? ⟨gb517, 2, none⟩ = some (.int .u64 0) := (blk_cell BK517.out 2).trans rfl; have hcz39_3 : wc.cell? ⟨gb517, 3, none⟩ = some (.string (⟨#[]⟩ : ByteArray)) := (blk_cell BK517.out 3).trans rfl; have hfz39_0 := blk_frozen BK517.out 0; have hfz39_1 := blk_frozen BK517.out 1; have hfz39_2 := blk_frozen BK517.out 2; have hfz39_3 := blk_frozen BK517.out 3))
       refine bodyPost_ret (results_ctt rfl _ _ gb517 53 #[.int .i64 0, .int .i64 0, .int .u64 0, .string (⟨#[]⟩ : ByteArray)] (0, 0) _ rfl (by (with_reducible repeat (first | refine blk_drewN ?_ _ | refine blk_drew ?_ | refine blk_alloc ?_ _)); refine blk_put (cs := #[.int .i64 0, .int .i64 0, .int .u64 0, .string (⟨#[]⟩ : ByteArray)]) ?_ 3 _ rfl; (with_reducible repeat (first | refine blk_drewN ?_ _ | refine blk_drew ?_ | refine blk_alloc ?_ _)); refine blk_put (cs := #[.int .i64 0, .int .i64 0, .int .u64 0, .string (⟨#[]⟩ : ByteArray)]) ?_ 2 _ rfl; (with_reducible repeat (first | refine blk_drewN ?_ _ | refine blk_drew ?_ | refine blk_alloc ?_ _)); refine blk_put (cs := #[.int .i64 0, .int .i64 0, .int .u64 0, .string (⟨#[]⟩ : ByteArray)]) ?_ 1 _ rfl; (with_reducible repeat (first | refine blk_drewN ?_ _ | refine blk_drew ?_ | refine blk_alloc ?_ _)); refine blk_put (cs := #[.int .i64 0, .int .i64 0, .int .u64 0, .string (⟨#[]⟩ : ByteArray)]) ?_ 0 _ rfl; (with_reducible repeat (first | refine blk_drewN ?_ _ | refine blk_drew ?_ | refine blk_alloc ?_ _)); exact BK517.out) Try.underlying53 rfl (by kernel_rfl)) rfl ?_
       exact ⟨_, by first | rfl | (simp [errW_none, errW_some] <;> rfl) | (simp [*, errW_none, errW_some] <;> rfl), Kd.V_mono (ok := fun _ => False) (Kd.R_V (base := 0) (Kd.R_nil _ _ _ _ _)) (fun _ hk => hk.elim), by repeat (first | (with_reducible first | exact HB.out | apply below_alloc | apply pw_below_drewN | apply below_drew1 | refine below_set ?_ GE517.out) | exact HB.out)⟩
     ·rw [if_neg c11] at H
      exact absurd H (by simp)
    ·rw [if_neg c10] at H
     exact absurd H (by simp)
def tlv_Decode.l0 : Nat → List Int → List (S53) → Int → Option ((List (S53)) × Int)
 | 0, _, _, _ => none
 | k + 1, x0, x4, x5 => if (x0.length : Int) > 0 then ((tlv_field.f k x0 x5).bind fun bt549 => (if bt549.2.2.2.2.2 = true then (if x4.length < 3518437208883 then (tlv_Decode.l0 k bt549.2.2.2.2.1 (x4 ++ [(⟨bt549.1, (⟨bt549.2.1, bt549.2.2.1, bt549.2.2.2.1⟩ : S51)⟩ : S53)]) bt549.1) else (none)) else (some (([] : List (S53)), 3)))) else (some (x4, 0))
def tlv_Decode.f (k : Nat) (l0 : List Int) : Option ((List (S53)) × Int) := if (l0.length : Int) > 16777215 then (some (([] : List (S53)), 2)) else (tlv_Decode.l0 k l0 ([] : List (S53)) 0)
theorem tlv_Decode.mono_l : ∀ k, (∀ y0 y1 y2, LeO (tlv_Decode.l0 k y0 y1 y2) (tlv_Decode.l0 (k + 1) y0 y1 y2))
 | 0 => fun _ _ _ r h => by simp [tlv_Decode.l0] at h
 | k + 1 => by
  have ih0 := tlv_Decode.mono_l k
  ·intro y0 y1 y2
   unfold tlv_Decode.l0
   repeat' first
   | (with_reducible exact ih0 _ _ _)
   | (with_reducible exact tlv_field.mono _ _ _)
   | (with_reducible exact LeO.refl _)
   | (with_reducible exact LeO.none _)
   | (with_reducible refine LeO.ite ?_ ?_)
   | (with_reducible refine LeO.bind ?_ (fun _ => ?_))
   | exact ih0 _ _ _
   | exact tlv_field.mono _ _ _
   | exact LeO.none _
   | refine LeO.ite ?_ ?_
   | refine LeO.bind ?_ (fun _ => ?_)
theorem tlv_Decode.mono : ∀ a0 k, LeO (tlv_Decode.f k a0) (tlv_Decode.f (k + 1) a0) := by
 intro a0 k
 have ih0 := tlv_Decode.mono_l k
 unfold tlv_Decode.f
 repeat' first
   | (with_reducible exact ih0 _ _ _)
   | (with_reducible exact tlv_field.mono _ _ _)
   | (with_reducible exact LeO.refl _)
   | (with_reducible exact LeO.none _)
   | (with_reducible refine LeO.ite ?_ ?_)
   | (with_reducible refine LeO.bind ?_ (fun _ => ?_))
   | exact ih0 _ _ _
   | exact tlv_field.mono _ _ _
   | exact LeO.none _
   | refine LeO.ite ?_ ?_
   | refine LeO.bind ?_ (fun _ => ?_)
set_option maxHeartbeats 8000000 in
set_option maxRecDepth 100000 in
theorem tlv_Decode.calls (k : Nat) (P0_ : Nat → Prop) (A0 : Option Addr) (c0 : Nat) (l0 : List Int) (r1 : List (S53)) (r2 : Int) (w : World) (hs0 : Kd.V (Kd.int .u8) 5 w w.heap.size (fun k_ => P0_ k_) (.slice A0 l0.length c0) l0) (h : tlv_Decode.f k l0 = some (r1, r2)) :
  Calls Try.prog 40 #[.slice A0 l0.length c0] w fun e w' => ∃ v0_ : Value, e = .returned (.tuple #[v0_, .int .i64 r2]) ∧ Kd.R k53 53 w' w.heap.size (fun k_ => (w.heap.size ≤ k_)) v0_ r1 ∧ Below w.heap.size w w' := by
 have hu53 := Try.underlying53
 have HO0 := Aside0.mk (show Kd.V (Kd.int .u8) 5 w w.heap.size (fun k_ => (P0_ k_ ∨ w.heap.size ≤ k_)) (.slice A0 l0.length c0) l0 from Kd.V_mono hs0 (fun k_ hk => .inl hk))
 have HB := Aside0.mk (Below.refl w.heap.size w)
 have H : (if (l0.length : Int) > 16777215 then (some (([] : List (S53)), 2)) else (tlv_Decode.l0 k l0 ([] : List (S53)) 0)) = some (r1, r2) := h
 clear h
 by_cases c2 : (l0.length : Int) > 16777215
 ·rw [if_pos c2] at H
  have c2b0 : decide (16777215 < (l0.length : Int)) = true := decide_eq_true c2
  have c2b1 : decide (16777215 < l0.length) = true := decide_eq_true (by omega)
  clear c2
  simp only [Option.some.injEq, Prod.mk.injEq] at H
  obtain ⟨rfl, rfl⟩ := H
  go_enter Try.func40, Try.ntmps40
  go_wp2
  go_ret2
  exact ⟨_, by first | rfl | (simp [errW_none, errW_some] <;> rfl) | (simp [*, errW_none, errW_some] <;> rfl), by first | exact Kd.R_nil _ _ _ _ _ | exact Kd.N_nil _ _ _ _ _ | exact Kd.V_nil _ _ _ _ _ | exact Kd.Q_nil _ _ _ _ _ | exact Kd.S_nil _ _ _ _ _, by repeat (first | (with_reducible first | exact HB.out | apply below_alloc | apply pw_below_drewN | apply below_drew1) | exact HB.out)⟩
 ·rw [if_neg c2] at H
  have c2b0 : decide (16777215 < (l0.length : Int)) = false := decide_eq_false c2
  have c2b1 : decide (16777215 < l0.length) = false := decide_eq_false (by omega)
  clear c2
  have H' := Aside0.mk H
  clear H
  go_enter Try.func40, Try.ntmps40
  go_wp2
  go_loopg [0, 4, 5] k (fun kq v0 v4 v5 w' => ∃ (x0_1 : List Int) (x4_1 : List (S53)) (x5_1 : Int), v5 = .int .i64 x5_1 ∧ Aside0 (tlv_Decode.l0 kq x0_1 x4_1 x5_1 = some (r1, r2)) ∧ Aside0 (kq ≤ k) ∧ Aside0 (Kd.V (Kd.int .u8) 5 w' w.heap.size (fun k_ => (P0_ k_ ∨ w.heap.size ≤ k_) ∧ some k_ ≠ (v4 : Value).ownBlock) v0 x0_1) ∧ Aside0 (Kd.R k53 53 w' w.heap.size (fun k_ => (w.heap.size ≤ k_)) v4 x4_1) ∧ Aside0 (Below w.heap.size w w'))
  case atStart => exact ⟨(l0), (([] : List (S53))), (0), (by first | rfl | (simp; done) | (simp [*]; done)), H', ⟨Nat.le_refl _⟩, ⟨by (with_reducible repeat (first | apply Kd.V_alloc | apply Kd.V_drewN | apply Kd.V_drew)); exact Kd.V_mono HO0.out (fun _ hk => ⟨hk, (by simp [Value.ownBlock])⟩)⟩, ⟨by first | exact Kd.R_nil _ _ _ _ _ | exact Kd.N_nil _ _ _ _ _ | exact Kd.V_nil _ _ _ _ _ | exact Kd.Q_nil _ _ _ _ _ | exact Kd.S_nil _ _ _ _ _⟩, ⟨by repeat (first | (with_reducible first | exact HB.out | apply below_alloc | apply pw_below_drewN | apply below_drew1) | exact HB.out)⟩⟩
  case round =>
   clear H'
   try clear c2
   try clear c2b0
   try clear c2b1
   try clear p2
   obtain ⟨x0_1, x4_1, x5_1, rfl, HA, HK1, HO_0, HO_4, HB⟩ := hrel
   cases gk with
   | zero => exact absurd HA.out (by simp [tlv_Decode.l0])
   | succ k1 =>
    have H := HA.out
    clear HA
    simp only [tlv_Decode.l0] at H
    by_cases c3 : (x0_1.length : Int) > 0
    ·rw [if_pos c3] at H
     have c3b0 : decide (0 < (x0_1.length : Int)) = true := decide_eq_true c3
     have c3b1 : decide (0 < x0_1.length) = true := decide_eq_true (by omega)
     clear c3
     replace H := Option.bind_eq_some_iff.mp H
     obtain ⟨⟨t549, t550, t551, t552, t553, t556⟩, A40, H⟩ := H
     replace H : (if t556 = true then (if x4_1.length < 3518437208883 then (tlv_Decode.l0 k1 t553 (x4_1 ++ [(⟨t549, (⟨t550, t551, t552⟩ : S51)⟩ : S53)]) t549) else (none)) else (some (([] : List (S53)), 3))) = some (r1, r2) := H
     have A4 := Aside0.mk A40
     clear A40
     by_cases c5 : t556 = true
     ·subst c5
      have H1 : (if x4_1.length < 3518437208883 then (tlv_Decode.l0 k1 t553 (x4_1 ++ [(⟨t549, (⟨t550, t551, t552⟩ : S51)⟩ : S53)]) t549) else (none)) = some (r1, r2) := by rw [if_pos rfl] at H; exact H
      clear H
      have H := H1
      clear H1
      by_cases c6 : x4_1.length < 3518437208883
      ·rw [if_pos c6] at H
       have LMc6 := Aside0.mk c6
       clear c6
       obtain ⟨y558, hy558⟩ : ∃ y_ : List (S53), y_ = (x4_1 ++ [(⟨t549, (⟨t550, t551, t552⟩ : S51)⟩ : S53)]) := ⟨_, rfl⟩
       replace H : (tlv_Decode.l0 k1 t553 y558 t549) = some (r1, r2) := by first | (rw [hy558]; with_reducible exact H) | (have H2_ := (Option.bind_some _ _).symm.trans H; rw [hy558]; with_reducible exact H2_) | (have H2_ := (Option.bind_some _ _).symm.trans H; with_reducible exact H2_) | with_reducible exact H | (rw [hy558]; exact H) | exact H
       have Ny558 := Aside0.mk hy558
       clear hy558
       have H' := Aside0.mk H
       clear H
       obtain ⟨Ao7, co7, eo7⟩ := Kd.V_slice HO_0.out
       subst eo7
       go_wp2_with (first | ((with_reducible refine gate_callee (f := 68) rfl ?_); refine goesL_ (some 18) rfl rfl Try.func68 (by kernel_rfl) rfl #[.slice Ao7 x0_1.length co7, .int .i64 x5_1] rfl (by (try simp only [List.map_toArray, List.map_cons, List.map_nil]); first | done | rfl | (simp only [List.length_drop, List.length_take]; rfl)) ?_; (with_reducible refine (tlv_field.calls k1 (fun k_ => ((P0_ k_ ∨ w.heap.size ≤ k_) ∧ some k_ ≠ (u4 : Value).ownBlock)) _ _ x0_1 x5_1 t549 t550 t551 t552 t553 true _ ?side1 A4.out).mono ?_); (case side1 => exact HO_0.out); rintro e w8 ⟨v554, rfl, ho0, hb⟩; refine ⟨_, rfl, ?_⟩; have n0_ := Aside0.mk (Kd.V_below (by (with_reducible repeat (first | apply Kd.V_alloc | apply Kd.V_drewN | apply Kd.V_drew)); exact HO_0.out) hb); have n1_ := Aside0.mk (Kd.R_below (by (with_reducible repeat (first | apply Kd.R_alloc | apply Kd.R_drewN | apply Kd.R_drew)); exact HO_4.out) hb); have n2_ := Aside0.mk (Kd.V_lower (Kd.V_mono (ok' := fun k_ => (P0_ k_ ∨ w.heap.size ≤ k_) ∧ some k_ ≠ (u4 : Value).ownBlock) ho0 (fun k_ hk_ => ⟨Or.elim hk_ (fun hs_ => hs_.1) (fun hn_ => (.inr (Nat.le_trans (below_size (by repeat (first | (with_reducible first | exact HB.out | apply below_alloc | apply pw_below_drewN | apply below_drew1) | exact HB.out))) hn_))), Or.elim hk_ (fun hs_ => hs_.2) (fun hn_ => (Kd.fresh' (Kd.R_lt (by (with_reducible repeat (first | apply Kd.R_alloc | apply Kd.R_drewN | apply Kd.R_drew)); exact HO_4.out)) k_ hn_))⟩)) (below_size (by repeat (first | (with_reducible first | exact HB.out | apply below_alloc | apply pw_below_drewN | apply below_drew1) | exact HB.out)))); have n3_ := Aside0.mk (below_step (by repeat (first | (with_reducible first | exact HB.out | apply below_alloc | apply pw_below_drewN | apply below_drew1) | exact HB.out)) hb); clear HO_0; clear HO_4; clear HB; have HO_0 := n0_; have HO_4 := n1_; have HO555 := n2_; have HB := n3_; clear n0_ n1_ n2_ n3_; (try clear hb); (try clear hb2); (try clear hk); (try clear hi); (try clear ho0)) | ((with_reducible refine gate_dst (N := 6) rfl ?_); refine box_event ?hg (N := 6) ?hd (cs := #[.int .i64 0, .int .i64 0, .int .u64 0, .string (⟨#[]⟩ : ByteArray)]) (t := 53) ?hr ?_; (case hd => rfl); (case hg => rfl); (case hr => first | (go_simp; done) | (go_simp; rfl)); intro gb557 hg w9 hbox hb; have n0_ := Aside0.mk (Kd.V_below (Kd.V_elderB (by (with_reducible repeat (first | apply Kd.V_alloc | apply Kd.V_drewN | apply Kd.V_drew)); exact HO_0.out) gb557 (Nat.le_of_eq hg.symm)) hb); have n1_ := Aside0.mk (Kd.R_below (Kd.R_elderB (by (with_reducible repeat (first | apply Kd.R_alloc | apply Kd.R_drewN | apply Kd.R_drew)); exact HO_4.out) gb557 (Nat.le_of_eq hg.symm)) hb); have n2_ := Aside0.mk (Kd.V_below (Kd.V_elderB (by (with_reducible repeat (first | apply Kd.V_alloc | apply Kd.V_drewN | apply Kd.V_drew)); exact HO555.out) gb557 (Nat.le_of_eq hg.symm)) hb); have n3_ := Aside0.mk (below_step (by repeat (first | (with_reducible first | exact HB.out | apply below_alloc | apply pw_below_drewN | apply below_drew1) | exact HB.out)) hb); have n4_ := Aside0.mk (hbox); have n5_ := Aside0.mk ((by rw [hg]; exact (below_size (by repeat (first | (with_reducible first | exact HB.out | apply below_alloc | apply pw_below_drewN | apply below_drew1) | exact HB.out))) : w.heap.size ≤ gb557)); have n6_ := Aside0.mk ((by rw [hg]; exact (below_size (by repeat (first | (with_reducible first | exact HB.out | apply below_alloc | apply pw_below_drewN | apply below_drew1) | exact HB.out))) : w.heap.size ≤ gb557)); clear HO_0; clear HO_4; clear HO555; clear HB; have HO_0 := n0_; have HO_4 := n1_; have HO555 := n2_; have HB := n3_; have BK557 := n4_; have GW557 := n5_; have GE557 := n6_; clear n0_ n1_ n2_ n3_ n4_ n5_ n6_; clear hb hbox hg; have hcz10_0 : w9.cell? ⟨gb557, 0, none⟩ = some (.int .i64 0) := (blk_cell BK557.out 0).trans rfl; have hcz10_1 : w9.cell? ⟨gb557, 1, none⟩ = some (.int .i64 0) := (blk_cell BK557.out 1).trans rfl; have hcz10_2 : w9.cell? ⟨gb557, 2, none⟩ = some (.int .u64 0) := (blk_cell BK557.out 2).trans rfl; have hcz10_3 : w9.cell? ⟨gb557, 3, none⟩ = some (.string (⟨#[]⟩ : ByteArray)) := (blk_cell BK557.out 3).trans rfl; have hfz10_0 := blk_frozen BK557.out 0; have hfz10_1 := blk_frozen BK557.out 1; have hfz10_2 := blk_frozen BK557.out 2; have hfz10_3 := blk_frozen BK557.out 3) | ((with_reducible refine gate_builtin (b := .append) (xs := #[.tmp 24, .tmp 26]) rfl ?_); at_builtin; refine Kd.R_append k53 (w0 := w) w.heap.size rfl (.tmp 24) (.tmp 26) 39 53 (.agg #[(.int .i64 0), (.int .i64 0), (.int .u64 0), (.string ⟨#[]⟩)]) 40 rfl Try.underlying39 info53 rfl (by decide) (by omega) u4 x4_1 (⟨t549, (⟨t550, t551, t552⟩ : S51)⟩ : S53) [.int .i64 t549, .int .i64 t550, .int .u64 t551, .string t552] (fun k_ => (w.heap.size ≤ k_) ∧ k_ ≠ gb557) (fun _ => False) rfl (by first | (go_simp; done) | (go_simp; rfl)) ?aP (fun _ hk => hk.elim) ?aF ?aO ?aB ?aS ?aL ?_; (case aP => exact k53_mkM _ _ _ (⟨t549, (⟨t550, t551, t552⟩ : S51)⟩ : S53)); (case aB => exact (by repeat (first | (with_reducible first | exact HB.out | apply below_alloc | apply pw_below_drewN | apply below_drew1 | refine below_set ?_ GE557.out) | exact HB.out))); (case aF => exact (fun k_ hk => ⟨(Nat.le_trans (below_size (by repeat (first | (with_reducible first | exact HB.out | apply below_alloc | apply pw_below_drewN | apply below_drew1 | refine below_set ?_ GE557.out) | exact HB.out))) hk), Kd.freshB (g := gb557) (o := .cells #[.int .i64 t549, .int .i64 t550, .int .u64 t551, .string t552] 53 (0, 0)) (by (with_reducible repeat (first | refine blk_drewN ?_ _ | refine blk_drew ?_ | refine blk_alloc ?_ _)); refine blk_put (cs := #[.int .i64 t549, .int .i64 t550, .int .u64 t551, .string (⟨#[]⟩ : ByteArray)]) ?_ 3 _ rfl; (with_reducible repeat (first | refine blk_drewN ?_ _ | refine blk_drew ?_ | refine blk_alloc ?_ _)); refine blk_put (cs := #[.int .i64 t549, .int .i64 t550, .int .u64 0, .string (⟨#[]⟩ : ByteArray)]) ?_ 2 _ rfl; (with_reducible repeat (first | refine blk_drewN ?_ _ | refine blk_drew ?_ | refine blk_alloc ?_ _)); refine blk_put (cs := #[.int .i64 t549, .int .i64 0, .int .u64 0, .string (⟨#[]⟩ : ByteArray)]) ?_ 1 _ rfl; (with_reducible repeat (first | refine blk_drewN ?_ _ | refine blk_drew ?_ | refine blk_alloc ?_ _)); refine blk_put (cs := #[.int .i64 0, .int .i64 0, .int .u64 0, .string (⟨#[]⟩ : ByteArray)]) ?_ 0 _ rfl; (with_reducible repeat (first | refine blk_drewN ?_ _ | refine blk_drew ?_ | refine blk_alloc ?_ _)); exact BK557.out) k_ hk⟩)); (case aO => exact (by (with_reducible repeat (first | apply Kd.R_alloc | apply Kd.R_drewN | apply Kd.R_drew)); exact Kd.R_mono (Kd.R_far (p := ⟨gb557, 3, none⟩) (Kd.R_far (p := ⟨gb557, 2, none⟩) (Kd.R_far (p := ⟨gb557, 1, none⟩) (Kd.R_far (p := ⟨gb557, 0, none⟩) (Kd.R_mono HO_4.out (fun k_ hk => (⟨hk, hk.2⟩ : _ ∧ k_ ≠ gb557))) (fun _ hk => hk.2) (.int .i64 t549)) (fun _ hk => hk.2) (.int .i64 t550)) (fun _ hk => hk.2) (.int .u64 t551)) (fun _ hk => hk.2) (.string t552)) (fun _ hk => ⟨hk.1.1, hk.1.2⟩))); (case aS => exact (below_size (by repeat (first | (with_reducible first | exact HB.out | apply below_alloc | apply pw_below_drewN | apply below_drew1 | refine below_set ?_ GE557.out) | exact HB.out)))); (case aL => have := LMc6.out; omega); intro v559 w11 ho hb hg hat; rw [← Ny558.out] at ho; have n0_ := Aside0.mk (Kd.V_afterv (ok := (fun k_ => (P0_ k_ ∨ w.heap.size ≤ k_) ∧ k_ ≠ gb557)) (by (with_reducible repeat (first | apply Kd.V_alloc | apply Kd.V_drewN | apply Kd.V_drew)); exact Kd.V_mono (Kd.V_far (p := ⟨gb557, 3, none⟩) (Kd.V_far (p := ⟨gb557, 2, none⟩) (Kd.V_far (p := ⟨gb557, 1, none⟩) (Kd.V_far (p := ⟨gb557, 0, none⟩) (Kd.V_mono HO_0.out (fun k_ hk => (⟨hk, hk.2⟩ : _ ∧ k_ ≠ gb557))) (fun _ hk => hk.2) (.int .i64 t549)) (fun _ hk => hk.2) (.int .i64 t550)) (fun _ hk => hk.2) (.int .u64 t551)) (fun _ hk => hk.2) (.string t552)) (fun _ hk => ⟨⟨hk.1.1.1, hk.1.2⟩, hk.1.1.2⟩)) hg hat); have n1_ := Aside0.mk (Kd.V_afterv (ok := (fun k_ => (P0_ k_ ∨ w.heap.size ≤ k_) ∧ k_ ≠ gb557)) (by (with_reducible repeat (first | apply Kd.V_alloc | apply Kd.V_drewN | apply Kd.V_drew)); exact Kd.V_mono (Kd.V_far (p := ⟨gb557, 3, none⟩) (Kd.V_far (p := ⟨gb557, 2, none⟩) (Kd.V_far (p := ⟨gb557, 1, none⟩) (Kd.V_far (p := ⟨gb557, 0, none⟩) (Kd.V_mono HO555.out (fun k_ hk => (⟨hk, hk.2⟩ : _ ∧ k_ ≠ gb557))) (fun _ hk => hk.2) (.int .i64 t549)) (fun _ hk => hk.2) (.int .i64 t550)) (fun _ hk => hk.2) (.int .u64 t551)) (fun _ hk => hk.2) (.string t552)) (fun _ hk => ⟨⟨hk.1.1.1, hk.1.2⟩, hk.1.1.2⟩)) hg hat); have n2_ := Aside0.mk (blk_grown (g := gb557) (o := .cells #[.int .i64 t549, .int .i64 t550, .int .u64 t551, .string t552] 53 (0, 0)) (by (with_reducible repeat (first | refine blk_drewN ?_ _ | refine blk_drew ?_ | refine blk_alloc ?_ _)); refine blk_put (cs := #[.int .i64 t549, .int .i64 t550, .int .u64 t551, .string (⟨#[]⟩ : ByteArray)]) ?_ 3 _ rfl; (with_reducible repeat (first | refine blk_drewN ?_ _ | refine blk_drew ?_ | refine blk_alloc ?_ _)); refine blk_put (cs := #[.int .i64 t549, .int .i64 t550, .int .u64 0, .string (⟨#[]⟩ : ByteArray)]) ?_ 2 _ rfl; (with_reducible repeat (first | refine blk_drewN ?_ _ | refine blk_drew ?_ | refine blk_alloc ?_ _)); refine blk_put (cs := #[.int .i64 t549, .int .i64 0, .int .u64 0, .string (⟨#[]⟩ : ByteArray)]) ?_ 1 _ rfl; (with_reducible repeat (first | refine blk_drewN ?_ _ | refine blk_drew ?_ | refine blk_alloc ?_ _)); refine blk_put (cs := #[.int .i64 0, .int .i64 0, .int .u64 0, .string (⟨#[]⟩ : ByteArray)]) ?_ 0 _ rfl; (with_reducible repeat (first | refine blk_drewN ?_ _ | refine blk_drew ?_ | refine blk_alloc ?_ _)); exact BK557.out) hg (Kd.R_away HO_4.out (fun _ hk => hk.2))); have n3_ := Aside0.mk (hb); have n4_ := Aside0.mk (ho); clear HO_0; clear HO555; clear BK557; clear HB; clear HO_4; have HO_0 := n0_; have HO555 := n1_; have BK557 := n2_; have HB := n3_; have HO560 := n4_; clear n0_ n1_ n2_ n3_ n4_; clear ho hb hg hat; have hcz12_0 : w11.cell? ⟨gb557, 0, none⟩ = some (.int .i64 t549) := (blk_cell BK557.out 0).trans rfl; have hcz12_1 : w11.cell? ⟨gb557, 1, none⟩ = some (.int .i64 t550) := (blk_cell BK557.out 1).trans rfl; have hcz12_2 : w11.cell? ⟨gb557, 2, none⟩ = some (.int .u64 t551) := (blk_cell BK557.out 2).trans rfl; have hcz12_3 : w11.cell? ⟨gb557, 3, none⟩ = some (.string t552) := (blk_cell BK557.out 3).trans rfl; have hfz12_0 := blk_frozen BK557.out 0; have hfz12_1 := blk_frozen BK557.out 1; have hfz12_2 := blk_frozen BK557.out 2; have hfz12_3 := blk_frozen BK557.out 3))
       go_roundg k1
       case measure => have := HK1.out; omega
       case rel => exact ⟨(t553), (y558), (t549), (by first | rfl | (simp; done) | (simp [*]; done)), H', ⟨by have := HK1.out; omega⟩, ⟨by (with_reducible repeat (first | apply Kd.V_alloc | apply Kd.V_drewN | apply Kd.V_drew)); exact Kd.V_mono HO555.out (fun _ hk => ⟨hk.1.1, hk.2⟩)⟩, ⟨by (with_reducible repeat (first | apply Kd.R_alloc | apply Kd.R_drewN | apply Kd.R_drew)); exact Kd.R_mono HO560.out (fun _ hk => hk.1)⟩, ⟨by repeat (first | (with_reducible first | exact HB.out | apply below_alloc | apply pw_below_drewN | apply below_drew1 | refine below_set ?_ GE557.out) | exact HB.out)⟩⟩
      ·rw [if_neg c6] at H
       exact absurd H (by simp)
     ·replace c5 := Bool.eq_false_iff.mpr c5
      subst c5
      have H1 : (some (([] : List (S53)), 3)) = some (r1, r2) := by rw [if_neg (show ¬ (false = true) by decide)] at H; exact H
      clear H
      have H := H1
      clear H1
      simp only [Option.some.injEq, Prod.mk.injEq] at H
      obtain ⟨rfl, rfl⟩ := H
      obtain ⟨Ao13, co13, eo13⟩ := Kd.V_slice HO_0.out
      subst eo13
      go_wp2_with (first | ((with_reducible refine gate_callee (f := 68) rfl ?_); refine goesL_ (some 18) rfl rfl Try.func68 (by kernel_rfl) rfl #[.slice Ao13 x0_1.length co13, .int .i64 x5_1] rfl (by (try simp only [List.map_toArray, List.map_cons, List.map_nil]); first | done | rfl | (simp only [List.length_drop, List.length_take]; rfl)) ?_; (with_reducible refine (tlv_field.calls k1 (fun k_ => ((P0_ k_ ∨ w.heap.size ≤ k_) ∧ some k_ ≠ (u4 : Value).ownBlock)) _ _ x0_1 x5_1 t549 t550 t551 t552 t553 false _ ?side1 A4.out).mono ?_); (case side1 => exact HO_0.out); rintro e w14 ⟨v554, rfl, ho0, hb⟩; refine ⟨_, rfl, ?_⟩; have n0_ := Aside0.mk (Kd.V_below (by (with_reducible repeat (first | apply Kd.V_alloc | apply Kd.V_drewN | apply Kd.V_drew)); exact HO_0.out) hb); have n1_ := Aside0.mk (Kd.R_below (by (with_reducible repeat (first | apply Kd.R_alloc | apply Kd.R_drewN | apply Kd.R_drew)); exact HO_4.out) hb); have n2_ := Aside0.mk (Kd.V_lower (Kd.V_mono (ok' := fun k_ => (P0_ k_ ∨ w.heap.size ≤ k_) ∧ some k_ ≠ (u4 : Value).ownBlock) ho0 (fun k_ hk_ => ⟨Or.elim hk_ (fun hs_ => hs_.1) (fun hn_ => (.inr (Nat.le_trans (below_size (by repeat (first | (with_reducible first | exact HB.out | apply below_alloc | apply pw_below_drewN | apply below_drew1) | exact HB.out))) hn_))), Or.elim hk_ (fun hs_ => hs_.2) (fun hn_ => (Kd.fresh' (Kd.R_lt (by (with_reducible repeat (first | apply Kd.R_alloc | apply Kd.R_drewN | apply Kd.R_drew)); exact HO_4.out)) k_ hn_))⟩)) (below_size (by repeat (first | (with_reducible first | exact HB.out | apply below_alloc | apply pw_below_drewN | apply below_drew1) | exact HB.out)))); have n3_ := Aside0.mk (below_step (by repeat (first | (with_reducible first | exact HB.out | apply below_alloc | apply pw_below_drewN | apply below_drew1) | exact HB.out)) hb); clear HO_0; clear HO_4; clear HB; have HO_0 := n0_; have HO_4 := n1_; have HO555 := n2_; have HB := n3_; clear n0_ n1_ n2_ n3_; (try clear hb); (try clear hb2); (try clear hk); (try clear hi); (try clear ho0)) | ((with_reducible refine gate_dst (N := 6) rfl ?_); refine box_event ?hg (N := 6) ?hd (cs := #[.int .i64 0, .int .i64 0, .int .u64 0, .string (⟨#[]⟩ : ByteArray)]) (t := 53) ?hr ?_; (case hd => rfl); (case hg => rfl); (case hr => first | (go_simp; done) | (go_simp; rfl)); intro gb557 hg w15 hbox hb; have n0_ := Aside0.mk (Kd.V_below (Kd.V_elderB (by (with_reducible repeat (first | apply Kd.V_alloc | apply Kd.V_drewN | apply Kd.V_drew)); exact HO_0.out) gb557 (Nat.le_of_eq hg.symm)) hb); have n1_ := Aside0.mk (Kd.R_below (Kd.R_elderB (by (with_reducible repeat (first | apply Kd.R_alloc | apply Kd.R_drewN | apply Kd.R_drew)); exact HO_4.out) gb557 (Nat.le_of_eq hg.symm)) hb); have n2_ := Aside0.mk (Kd.V_below (Kd.V_elderB (by (with_reducible repeat (first | apply Kd.V_alloc | apply Kd.V_drewN | apply Kd.V_drew)); exact HO555.out) gb557 (Nat.le_of_eq hg.symm)) hb); have n3_ := Aside0.mk (below_step (by repeat (first | (with_reducible first | exact HB.out | apply below_alloc | apply pw_below_drewN | apply below_drew1) | exact HB.out)) hb); have n4_ := Aside0.mk (hbox); have n5_ := Aside0.mk ((by rw [hg]; exact (below_size (by repeat (first | (with_reducible first | exact HB.out | apply below_alloc | apply pw_below_drewN | apply below_drew1) | exact HB.out))) : w.heap.size ≤ gb557)); have n6_ := Aside0.mk ((by rw [hg]; exact (below_size (by repeat (first | (with_reducible first | exact HB.out | apply below_alloc | apply pw_below_drewN | apply below_drew1) | exact HB.out))) : w.heap.size ≤ gb557)); clear HO_0; clear HO_4; clear HO555; clear HB; have HO_0 := n0_; have HO_4 := n1_; have HO555 := n2_; have HB := n3_; have BK557 := n4_; have GW557 := n5_; have GE557 := n6_; clear n0_ n1_ n2_ n3_ n4_ n5_ n6_; clear hb hbox hg; have hcz16_0 : w15.cell? ⟨gb557, 0, none⟩ = some (.int .i64 0) := (blk_cell BK557.out 0).trans rfl; have hcz16_1 : w15.cell? ⟨gb557, 1, none⟩ = some (.int .i64 0) := (blk_cell BK557.out 1).trans rfl; have hcz16_2 : w15.cell? ⟨gb557, 2, none⟩ = some (.int .u64 0) := (blk_cell BK557.out 2).trans rfl; have hcz16_3 : w15.cell? ⟨gb557, 3, none⟩ = some (.string (⟨#[]⟩ : ByteArray)) := (blk_cell BK557.out 3).trans rfl; have hfz16_0 := blk_frozen BK557.out 0; have hfz16_1 := blk_frozen BK557.out 1; have hfz16_2 := blk_frozen BK557.out 2; have hfz16_3 := blk_frozen BK557.out 3))
      go_ret2
      exact ⟨_, by first | rfl | (simp [errW_none, errW_some] <;> rfl) | (simp [*, errW_none, errW_some] <;> rfl), by first | exact Kd.R_nil _ _ _ _ _ | exact Kd.N_nil _ _ _ _ _ | exact Kd.V_nil _ _ _ _ _ | exact Kd.Q_nil _ _ _ _ _ | exact Kd.S_nil _ _ _ _ _, by repeat (first | (with_reducible first | exact HB.out | apply below_alloc | apply pw_below_drewN | apply below_drew1 | refine below_set ?_ GE557.out) | exact HB.out)⟩
    ·rw [if_neg c3] at H
     have c3b0 : decide (0 < (x0_1.length : Int)) = false := decide_eq_false c3
     have c3b1 : decide (0 < x0_1.length) = false := decide_eq_false (by omega)
     clear c3
     simp only [Option.some.injEq, Prod.mk.injEq] at H
     obtain ⟨rfl, rfl⟩ := H
     obtain ⟨Ao17, co17, eo17⟩ := Kd.V_slice HO_0.out
     subst eo17
     go_wp2
     go_ret2
     exact ⟨_, by first | rfl | (simp [errW_none, errW_some] <;> rfl) | (simp [*, errW_none, errW_some] <;> rfl), by (with_reducible repeat (first | apply Kd.R_alloc | apply Kd.R_drewN | apply Kd.R_drew)); exact HO_4.out, by repeat (first | (with_reducible first | exact HB.out | apply below_alloc | apply pw_below_drewN | apply below_drew1) | exact HB.out)⟩
def stratumlaw05_same.l0 : Nat → List (S53) → List (S53) → Int → Option (Bool)
 | 0, _, _, _ => none
 | k + 1, x0, x1, x5 => if x5 < (x0.length : Int) then (if 0 ≤ x5 then (if x5 < (x1.length : Int) then (if (!(((rd_T53 x0 x5).f0) == ((rd_T53 x1 x5).f0)) || ((!(((rd_T53 x0 x5).f1.f0) == ((rd_T53 x1 x5).f1.f0)) || (!(((rd_T53 x0 x5).f1.f1) == ((rd_T53 x1 x5).f1.f1)) || (!((((rd_T53 x0 x5).f1.f2).toList) == (((rd_T53 x1 x5).f1.f2).toList))))))) = true then (some false) else (stratumlaw05_same.l0 k x0 x1 (wrap64 (x5 + 1)))) else (none)) else (none)) else (some true)
def stratumlaw05_same.f (k : Nat) (l0 : List (S53)) (l1 : List (S53)) : Option (Bool) := if (l0.length : Int) = (l1.length : Int) then (stratumlaw05_same.l0 k l0 l1 0) else (some false)
theorem stratumlaw05_same.mono_l : ∀ k, (∀ y0 y1 y2, LeO (stratumlaw05_same.l0 k y0 y1 y2) (stratumlaw05_same.l0 (k + 1) y0 y1 y2))
 | 0 => fun _ _ _ r h => by simp [stratumlaw05_same.l0] at h
 | k + 1 => by
  have ih0 := stratumlaw05_same.mono_l k
  ·intro y0 y1 y2
   unfold stratumlaw05_same.l0
   repeat' first
   | (with_reducible exact ih0 _ _ _)
   | (with_reducible exact LeO.refl _)
   | (with_reducible exact LeO.none _)
   | (with_reducible refine LeO.ite ?_ ?_)
   | (with_reducible refine LeO.bind ?_ (fun _ => ?_))
   | exact ih0 _ _ _
   | exact LeO.none _
   | refine LeO.ite ?_ ?_
   | refine LeO.bind ?_ (fun _ => ?_)
theorem stratumlaw05_same.mono : ∀ a0 a1 k, LeO (stratumlaw05_same.f k a0 a1) (stratumlaw05_same.f (k + 1) a0 a1) := by
 intro a0 a1 k
 have ih0 := stratumlaw05_same.mono_l k
 unfold stratumlaw05_same.f
 repeat' first
   | (with_reducible exact ih0 _ _ _)
   | (with_reducible exact LeO.refl _)
   | (with_reducible exact LeO.none _)
   | (with_reducible refine LeO.ite ?_ ?_)
   | (with_reducible refine LeO.bind ?_ (fun _ => ?_))
   | exact ih0 _ _ _
   | exact LeO.none _
   | refine LeO.ite ?_ ?_
   | refine LeO.bind ?_ (fun _ => ?_)
set_option maxHeartbeats 8000000 in
set_option maxRecDepth 100000 in
theorem stratumlaw05_same.calls (k : Nat) (A0 : Option Addr) (c0 : Nat) (l0 : List (S53)) (A1 : Option Addr) (c1 : Nat) (l1 : List (S53)) (r : Bool) (w : World) (hr0 : Kd.C k53 w A0 l0.length l0) (hc0 : l0.length ≤ c0) (hr1 : Kd.C k53 w A1 l1.length l1) (hc1 : l1.length ≤ c1) (h : stratumlaw05_same.f k l0 l1 = some r) :
  Calls Try.prog 41 #[.slice A0 l0.length c0, .slice A1 l1.length c1] w fun e w' => e = .returned (.bool r) ∧ Drawn0 w w' := by
 have hu53 := Try.underlying53
 have HR0 := Aside0.mk hr0
 have HC0 := Aside0.mk hc0
 clear hr0 hc0
 have HR1 := Aside0.mk hr1
 have HC1 := Aside0.mk hc1
 clear hr1 hc1
 have H : (if (l0.length : Int) = (l1.length : Int) then (stratumlaw05_same.l0 k l0 l1 0) else (some false)) = some r := h
 clear h
 by_cases c3 : (l0.length : Int) = (l1.length : Int)
 ·rw [if_pos c3] at H
  have c3b0 : ((l0.length : Int) == (l1.length : Int)) = true := beq_iff_eq.mpr c3
  have c3b1 : ((l0.length : Int) != (l1.length : Int)) = false := bne_eq_false_iff_eq.mpr c3
  have c3b2 : (l0.length == l1.length) = true := by first | simpa using c3 | (simp at c3 ⊢; omega)
  clear c3
  have H' := Aside0.mk H
  clear H
  go_enter Try.func41, Try.ntmps41
  go_wp2
  repeat (go_quiet (fail); try go_wp2)
  go_loopg [5] k (fun kq v5 w' => ∃ (x5_1 : Int), v5 = .int .i64 x5_1 ∧ Aside0 (stratumlaw05_same.l0 kq l0 l1 x5_1 = some r) ∧ Aside0 (kq ≤ k) ∧ Drawn0 w w')
  case atStart => exact ⟨(0), (by first | rfl | (simp; done) | (simp [*]; done)), H', ⟨Nat.le_refl _⟩, by repeat (first | exact Drawn0.refl _ | apply Drawn0.step)⟩
  case round =>
   clear H'
   try clear c1
   try clear p2
   try clear c3
   try clear c3b0
   try clear c3b1
   try clear c3b2
   obtain ⟨x5_1, rfl, HA, HK1, ⟨m1, rfl⟩⟩ := hrel
   cases gk with
   | zero => exact absurd HA.out (by simp [stratumlaw05_same.l0])
   | succ k1 =>
    have H := HA.out
    clear HA
    simp only [stratumlaw05_same.l0] at H
    by_cases c4 : x5_1 < (l0.length : Int)
    ·rw [if_pos c4] at H
     have c4b0 : decide (x5_1 < (l0.length : Int)) = true := decide_eq_true c4
     clear c4
     by_cases c5 : 0 ≤ x5_1
     ·rw [if_pos c5] at H
      have c5b0 : decide (0 ≤ x5_1) = true := decide_eq_true c5
      clear c5
      by_cases c6 : x5_1 < (l1.length : Int)
      ·rw [if_pos c6] at H
       have c6b0 : decide (x5_1 < (l1.length : Int)) = true := decide_eq_true c6
       clear c6
       by_cases c7 : (!(((rd_T53 l0 x5_1).f0) == ((rd_T53 l1 x5_1).f0)) || ((!(((rd_T53 l0 x5_1).f1.f0) == ((rd_T53 l1 x5_1).f1.f0)) || (!(((rd_T53 l0 x5_1).f1.f1) == ((rd_T53 l1 x5_1).f1.f1)) || (!((((rd_T53 l0 x5_1).f1.f2).toList) == (((rd_T53 l1 x5_1).f1.f2).toList))))))) = true
       ·rw [if_pos c7] at H
        have c7b0 : (!(((rd_T53 l0 x5_1).f0) == ((rd_T53 l1 x5_1).f0)) || ((!(((rd_T53 l0 x5_1).f1.f0) == ((rd_T53 l1 x5_1).f1.f0)) || (!(((rd_T53 l0 x5_1).f1.f1) == ((rd_T53 l1 x5_1).f1.f1)) || (!((((rd_T53 l0 x5_1).f1.f2).toList) == (((rd_T53 l1 x5_1).f1.f2).toList))))))) = true := c7
        clear c7
        obtain rfl := Option.some.inj H
        have p561 : 0 ≤ (x5_1 : Int) := of_decide_eq_true (by first | (with_reducible assumption) | assumption)
        have q561 : x5_1 < (l0.length : Int) := of_decide_eq_true (by first | (with_reducible assumption) | assumption)
        obtain ⟨ad561, e561, hx561_0, hx561_1, hx561_2, hx561_3⟩ := at_T53 HR0.out x5_1 p561 q561
        cases e561
        replace p561 := eq_true p561
        replace q561 := eq_true q561
        have p562 : 0 ≤ (x5_1 : Int) := of_decide_eq_true (by first | (with_reducible assumption) | assumption)
        have q562 : x5_1 < (l1.length : Int) := of_decide_eq_true (by first | (with_reducible assumption) | assumption)
        obtain ⟨ad562, e562, hx562_0, hx562_1, hx562_2, hx562_3⟩ := at_T53 HR1.out x5_1 p562 q562
        cases e562
        replace p562 := eq_true p562
        replace q562 := eq_true q562
        go_wp2
        repeat (go_quiet (fail); try go_wp2)
        go_ret
        exact ⟨by first | rfl | (simp; done) | (simp [*]; done), by repeat (first | exact Drawn0.refl _ | apply Drawn0.step)⟩
       ·rw [if_neg c7] at H
        have c7b0 : (!(((rd_T53 l0 x5_1).f0) == ((rd_T53 l1 x5_1).f0)) || ((!(((rd_T53 l0 x5_1).f1.f0) == ((rd_T53 l1 x5_1).f1.f0)) || (!(((rd_T53 l0 x5_1).f1.f1) == ((rd_T53 l1 x5_1).f1.f1)) || (!((((rd_T53 l0 x5_1).f1.f2).toList) == (((rd_T53 l1 x5_1).f1.f2).toList))))))) = false := by simpa using c7
        clear c7
        have H' := Aside0.mk H
        clear H
        have p561 : 0 ≤ (x5_1 : Int) := of_decide_eq_true (by first | (with_reducible assumption) | assumption)
        have q561 : x5_1 < (l0.length : Int) := of_decide_eq_true (by first | (with_reducible assumption) | assumption)
        obtain ⟨ad561, e561, hx561_0, hx561_1, hx561_2, hx561_3⟩ := at_T53 HR0.out x5_1 p561 q561
        cases e561
        replace p561 := eq_true p561
        replace q561 := eq_true q561
        have p562 : 0 ≤ (x5_1 : Int) := of_decide_eq_true (by first | (with_reducible assumption) | assumption)
        have q562 : x5_1 < (l1.length : Int) := of_decide_eq_true (by first | (with_reducible assumption) | assumption)
        obtain ⟨ad562, e562, hx562_0, hx562_1, hx562_2, hx562_3⟩ := at_T53 HR1.out x5_1 p562 q562
        cases e562
        replace p562 := eq_true p562
        replace q562 := eq_true q562
        go_wp2
        repeat (go_quiet (fail); try go_wp2)
        go_roundg k1
        case measure => have := HK1.out; omega
        case rel => exact ⟨(wrap64 (x5_1 + 1)), (by first | rfl | (simp; done) | (simp [*]; done)), H', ⟨by have := HK1.out; omega⟩, by repeat (first | exact Drawn0.refl _ | apply Drawn0.step)⟩
      ·rw [if_neg c6] at H
       exact absurd H (by simp)
     ·rw [if_neg c5] at H
      exact absurd H (by simp)
    ·rw [if_neg c4] at H
     have c4b0 : decide (x5_1 < (l0.length : Int)) = false := decide_eq_false c4
     clear c4
     obtain rfl := Option.some.inj H
     go_wp2
     repeat (go_quiet (fail); try go_wp2)
     go_ret
     exact ⟨by first | rfl | (simp; done) | (simp [*]; done), by repeat (first | exact Drawn0.refl _ | apply Drawn0.step)⟩
 ·rw [if_neg c3] at H
  have c3b0 : ((l0.length : Int) == (l1.length : Int)) = false := beq_eq_false_iff_ne.mpr c3
  have c3b1 : ((l0.length : Int) != (l1.length : Int)) = true := bne_iff_ne.mpr c3
  have c3b2 : (l0.length == l1.length) = false := by first | simpa using c3 | (simp at c3 ⊢; omega)
  obtain rfl := Option.some.inj H
  go_enter Try.func41, Try.ntmps41
  go_wp2
  repeat (go_quiet (fail); try go_wp2)
  go_ret
  exact ⟨by first | rfl | (simp; done) | (simp [*]; done), by repeat (first | exact Drawn0.refl _ | apply Drawn0.step)⟩
def kind_Text.f  : Option (Int) := some 4
set_option maxHeartbeats 8000000 in
set_option maxRecDepth 100000 in
theorem kind_Text.calls  (r : Int) (w : World) (h : kind_Text.f  = some r) :
  Calls Try.prog 72 #[] w fun e w' => e = .returned (.int .i64 r) ∧ Drawn0 w w' := by
 have H : (some 4) = some r := h
 clear h
 obtain rfl := Option.some.inj H
 go_enter Try.func72, Try.ntmps72
 go_wp2
 go_ret
 exact ⟨by first | rfl | (simp; done) | (simp [*]; done), by repeat (first | exact Drawn0.refl _ | apply Drawn0.step)⟩
def stratumlaw05_small.f  : Option ((List (S53))) := (kind_Uint.f).bind fun t563 => ((kind_Text.f).bind fun t564 => (some (([(⟨1, (⟨t563, 300, (⟨#[]⟩ : ByteArray)⟩ : S51)⟩ : S53), (⟨16, (⟨t564, 0, (⟨#[97, 98]⟩ : ByteArray)⟩ : S51)⟩ : S53)] : List (S53)))))
set_option maxHeartbeats 8000000 in
set_option maxRecDepth 100000 in
theorem stratumlaw05_small.calls  (r : List (S53)) (w : World) (h : stratumlaw05_small.f  = some r) :
  Calls Try.prog 57 #[] w fun e w' => ∃ v0_ : Value, e = .returned (v0_) ∧ Kd.R k53 53 w' w.heap.size (fun _ => True) v0_ r ∧ Below w.heap.size w w' := by
 have hu51 := Try.underlying51
 have hu53 := Try.underlying53
 have HB := Aside0.mk (Below.refl w.heap.size w)
 have H : ((kind_Uint.f).bind fun t563 => ((kind_Text.f).bind fun t564 => (some (([(⟨1, (⟨t563, 300, (⟨#[]⟩ : ByteArray)⟩ : S51)⟩ : S53), (⟨16, (⟨t564, 0, (⟨#[97, 98]⟩ : ByteArray)⟩ : S51)⟩ : S53)] : List (S53)))))) = some r := h
 clear h
 replace H := Option.bind_eq_some_iff.mp H
 obtain ⟨t563, A10, H⟩ := H
 replace H : ((kind_Text.f).bind fun t564 => (some (([(⟨1, (⟨t563, 300, (⟨#[]⟩ : ByteArray)⟩ : S51)⟩ : S53), (⟨16, (⟨t564, 0, (⟨#[97, 98]⟩ : ByteArray)⟩ : S51)⟩ : S53)] : List (S53))))) = some r := H
 have A1 := Aside0.mk A10
 clear A10
 replace H := Option.bind_eq_some_iff.mp H
 obtain ⟨t564, A20, H⟩ := H
 replace H : (some (([(⟨1, (⟨t563, 300, (⟨#[]⟩ : ByteArray)⟩ : S51)⟩ : S53), (⟨16, (⟨t564, 0, (⟨#[97, 98]⟩ : ByteArray)⟩ : S51)⟩ : S53)] : List (S53)))) = some r := H
 have A2 := Aside0.mk A20
 clear A20
 obtain ⟨y565, hy565⟩ : ∃ y_ : List (S53), y_ = (([(⟨1, (⟨t563, 300, (⟨#[]⟩ : ByteArray)⟩ : S51)⟩ : S53), (⟨16, (⟨t564, 0, (⟨#[97, 98]⟩ : ByteArray)⟩ : S51)⟩ : S53)] : List (S53))) := ⟨_, rfl⟩
 replace H : (some y565) = some r := by first | (rw [hy565]; with_reducible exact H) | (have H2_ := (Option.bind_some _ _).symm.trans H; rw [hy565]; with_reducible exact H2_) | (have H2_ := (Option.bind_some _ _).symm.trans H; with_reducible exact H2_) | with_reducible exact H | (rw [hy565]; exact H) | exact H
 have Ny565 := Aside0.mk hy565
 clear hy565
 obtain rfl := Option.some.inj H
 go_enter Try.func57, Try.ntmps57
 go_wp2_with (first | ((with_reducible refine gate_callee (f := 43) rfl ?_); refine goesL_ (some 1) rfl rfl Try.func43 (by kernel_rfl) rfl #[] rfl (by (try simp only [List.map_toArray, List.map_cons, List.map_nil]); first | done | rfl | (simp only [List.length_drop, List.length_take]; rfl)) ?_; (with_reducible refine (kind_Uint.calls  t563 _ A1.out).mono ?_); rintro e w' ⟨rfl, ⟨nd, rfl⟩⟩; refine ⟨_, rfl, ?_⟩) | ((with_reducible refine gate_callee (f := 72) rfl ?_); refine goesL_ (some 4) rfl rfl Try.func72 (by kernel_rfl) rfl #[] rfl (by (try simp only [List.map_toArray, List.map_cons, List.map_nil]); first | done | rfl | (simp only [List.length_drop, List.length_take]; rfl)) ?_; (with_reducible refine (kind_Text.calls  t564 _ A2.out).mono ?_); rintro e w' ⟨rfl, ⟨nd, rfl⟩⟩; refine ⟨_, rfl, ?_⟩) | ((with_reducible refine gate_dst (N := 7) rfl ?_); refine Kd.R_lit k53 _ 53 ?hg (N := 7) ?hd (xs := ([(⟨1, (⟨t563, 300, (⟨#[]⟩ : ByteArray)⟩ : S51)⟩ : S53), (⟨16, (⟨t564, 0, (⟨#[97, 98]⟩ : ByteArray)⟩ : S51)⟩ : S53)] : List (S53))) (inner := [.int .i64 1, .int .i64 t563, .int .u64 300, .string (⟨#[]⟩ : ByteArray), .int .i64 16, .int .i64 t564, .int .u64 0, .string (⟨#[97, 98]⟩ : ByteArray)]) (ok := fun _ => True) (okp := fun _ => True) ?hr ?hp (fun _ hk => hk) trivial (Below.refl _ _) (Nat.le_refl _) (by simp) ?_; (case hd => rfl); (case hg => rfl); (case hr => first | (go_simp; done) | (go_simp; rfl)); (case hp => exact (Reps.c4 (show Kd.M k53 _ _ _ (⟨1, (⟨t563, 300, (⟨#[]⟩ : ByteArray)⟩ : S51)⟩ : S53) [.int .i64 1, .int .i64 t563, .int .u64 300, .string (⟨#[]⟩ : ByteArray)] from (k53_mkM _ _ _ (⟨1, (⟨t563, 300, (⟨#[]⟩ : ByteArray)⟩ : S51)⟩ : S53) )) (Reps.c4 (show Kd.M k53 _ _ _ (⟨16, (⟨t564, 0, (⟨#[97, 98]⟩ : ByteArray)⟩ : S51)⟩ : S53) [.int .i64 16, .int .i64 t564, .int .u64 0, .string (⟨#[97, 98]⟩ : ByteArray)] from (k53_mkM _ _ _ (⟨16, (⟨t564, 0, (⟨#[97, 98]⟩ : ByteArray)⟩ : S51)⟩ : S53) )) (Reps.none _ _)))); intro v566 w3 ho4 hb hg_ hnew_; clear hg_ hnew_; (first | rw [← Ny565.out] at ho4 | (simp only [Int.reduceToNat] at ho4; rw [← Ny565.out] at ho4)); have n0_ := Aside0.mk (Kd.R_lower ho4 (below_size (by repeat (first | (with_reducible first | exact HB.out | apply below_alloc | apply pw_below_drewN | apply below_drew1) | exact HB.out)))); have n1_ := Aside0.mk (below_step (by repeat (first | (with_reducible first | exact HB.out | apply below_alloc | apply pw_below_drewN | apply below_drew1) | exact HB.out)) hb); clear HB; have HO567 := n0_; have HB := n1_; clear n0_ n1_; clear hb ho4))
 go_ret
 exact ⟨_, by first | rfl | (simp [errW_none, errW_some] <;> rfl) | (simp [*, errW_none, errW_some] <;> rfl), by (with_reducible repeat (first | apply Kd.R_alloc | apply Kd.R_drewN | apply Kd.R_drew)); exact HO567.out, by repeat (first | (with_reducible first | exact HB.out | apply below_alloc | apply pw_below_drewN | apply below_drew1) | exact HB.out)⟩
end Go.Proofs.Yteejpfemaedmkaa.X
