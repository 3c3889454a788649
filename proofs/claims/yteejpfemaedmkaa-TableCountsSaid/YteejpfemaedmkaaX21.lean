-- Written by wip/printx.py: the kit's printer with functions proved by hand. Not trusted: Lean checks it.
import Derived.Test.YteejpfemaedmkaaX0
import Derived.Test.YteejpfemaedmkaaX4
import Derived.Test.YteejpfemaedmkaaX11
namespace Go.Proofs.Yteejpfemaedmkaa.X
open Go.RowKit Go.Proofs.YteejpfemaedmkaaW.PrintWords Go.Proofs.YteejpfemaedmkaaW.PrintLast Go.Proofs.YteejpfemaedmkaaW.PrintMore
attribute [local go_sem] max2_int min2_int max_two min_two max_three min_three max_four min_four   -- for this text's walks alone
set_option linter.unusedVariables false
set_option linter.unusedSimpArgs false

attribute [local go_sem] vx_gtr vx_leq vx_geq
/-! ### stratumlaw13_TableCounts: function 7 -/
mutual
def stratumlaw13_TableCounts.j0 : Nat → Int → Int → Int → Bool → List (S48) → Option (Bool)
  | 0, _, _, _, _, _ => none
  | k + 1, x1, x2, x8, x29, x425000 => if x29 = true then (some (x8 == 131)) else (if 0 ≤ x1 then (if x1 < (x425000.length : Int) then (if x2 ≥ 1 then (if x2 ≤ (((rd_T48 x425000 x1).f1).length : Int) then (if x8 = 0 then (stratumlaw13_TableCounts.j1 k x1 false x425000 ((rd_T48 x425000 x1).f0) ((rd_T48 x425000 x1).f1)) else (stratumlaw13_TableCounts.j1 k x1 true x425000 ((rd_T48 x425000 x1).f0) ((rd_T48 x425000 x1).f1))) else (if x8 = 0 then (stratumlaw13_TableCounts.j1 k x1 true x425000 ((rd_T48 x425000 x1).f0) ((rd_T48 x425000 x1).f1)) else (stratumlaw13_TableCounts.j1 k x1 (x8 != 132) x425000 ((rd_T48 x425000 x1).f0) ((rd_T48 x425000 x1).f1)))) else (if x8 = 0 then (stratumlaw13_TableCounts.j1 k x1 true x425000 ((rd_T48 x425000 x1).f0) ((rd_T48 x425000 x1).f1)) else (stratumlaw13_TableCounts.j1 k x1 (x8 != 132) x425000 ((rd_T48 x425000 x1).f0) ((rd_T48 x425000 x1).f1)))) else (none)) else (none))
def stratumlaw13_TableCounts.j1 : Nat → Int → Bool → List (S48) → ByteArray → List (S45) → Option (Bool)
  | 0, _, _, _, _, _ => none
  | k + 1, x1, x56, x425000, x432000, x432001 => if x56 = true then (some false) else ((table_Find.f x425000 x432000).bind fun t432 => (if t432 < 0 then (stratumlaw13_TableCounts.j2 k t432 true x425000 x432000 x432001) else (if t432 > x1 then (stratumlaw13_TableCounts.j2 k t432 true x425000 x432000 x432001) else (if 0 ≤ t432 then (if t432 < (x425000.length : Int) then (stratumlaw13_TableCounts.j2 k t432 (((rd_T48 x425000 t432).f0).toList != x432000.toList) x425000 x432000 x432001) else (none)) else (none)))))
def stratumlaw13_TableCounts.j2 : Nat → Int → Bool → List (S48) → ByteArray → List (S45) → Option (Bool)
  | 0, _, _, _, _, _ => none
  | k + 1, x10, x78, x425000, x432000, x432001 => if x78 = true then (some false) else (stratumlaw13_TableCounts.l0 k x10 0 x425000 x432000 x432001)
def stratumlaw13_TableCounts.l0 : Nat → Int → Int → List (S48) → ByteArray → List (S45) → Option (Bool)
  | 0, _, _, _, _, _ => none
  | k + 1, x10, x11, x425000, x432000, x432001 => if x11 < x10 then (if 0 ≤ x11 then (if x11 < (x425000.length : Int) then (if ((rd_T48 x425000 x11).f0).toList = x432000.toList then (some false) else (stratumlaw13_TableCounts.l0 k x10 (wrap64 (x11 + 1)) x425000 x432000 x432001)) else (none)) else (none)) else (some true)
end
def stratumlaw13_TableCounts.f (k : Nat) (l0_0 : List (S48)) (a1 : Int) (a2 : Int) : Option (Bool) := (stratumlaw13_awake.f k).bind fun t425 => (if t425 = true then ((table_Columns.f k l0_0 a1 a2).bind fun bt426 => (if a1 < 0 then (stratumlaw13_TableCounts.j0 k a1 a2 bt426.2 true l0_0) else (stratumlaw13_TableCounts.j0 k a1 a2 bt426.2 (decide ((l0_0.length : Int) ≤ a1)) l0_0))) else (some false))
theorem stratumlaw13_TableCounts.mono_l : ∀ k, (∀ y0 y1 y2 y3 y4, LeO (stratumlaw13_TableCounts.j0 k y0 y1 y2 y3 y4) (stratumlaw13_TableCounts.j0 (k + 1) y0 y1 y2 y3 y4)) ∧ (∀ y0 y1 y2 y3 y4, LeO (stratumlaw13_TableCounts.j1 k y0 y1 y2 y3 y4) (stratumlaw13_TableCounts.j1 (k + 1) y0 y1 y2 y3 y4)) ∧ (∀ y0 y1 y2 y3 y4, LeO (stratumlaw13_TableCounts.j2 k y0 y1 y2 y3 y4) (stratumlaw13_TableCounts.j2 (k + 1) y0 y1 y2 y3 y4)) ∧ (∀ y0 y1 y2 y3 y4, LeO (stratumlaw13_TableCounts.l0 k y0 y1 y2 y3 y4) (stratumlaw13_TableCounts.l0 (k + 1) y0 y1 y2 y3 y4))
  | 0 => ⟨fun _ _ _ _ _ r h => by simp [stratumlaw13_TableCounts.j0] at h, fun _ _ _ _ _ r h => by simp [stratumlaw13_TableCounts.j1] at h, fun _ _ _ _ _ r h => by simp [stratumlaw13_TableCounts.j2] at h, fun _ _ _ _ _ r h => by simp [stratumlaw13_TableCounts.l0] at h⟩
  | k + 1 => by
    obtain ⟨ih0, ih1, ih2, ih3⟩ := stratumlaw13_TableCounts.mono_l k
    refine ⟨?_, ?_, ?_, ?_⟩
    · intro y0 y1 y2 y3 y4
      unfold stratumlaw13_TableCounts.j0
      repeat' first
      | (with_reducible exact ih0 _ _ _ _ _)
      | (with_reducible exact ih1 _ _ _ _ _)
      | (with_reducible exact ih2 _ _ _ _ _)
      | (with_reducible exact ih3 _ _ _ _ _)
      | (with_reducible exact stratumlaw13_awake.mono _)
      | (with_reducible exact table_Columns.mono _ _ _ _)
      | (with_reducible exact LeO.refl _)
      | (with_reducible exact LeO.none _)
      | (with_reducible refine LeO.ite ?_ ?_)
      | (with_reducible refine LeO.bind ?_ (fun _ => ?_))
      | exact ih0 _ _ _ _ _
      | exact ih1 _ _ _ _ _
      | exact ih2 _ _ _ _ _
      | exact ih3 _ _ _ _ _
      | exact stratumlaw13_awake.mono _
      | exact table_Columns.mono _ _ _ _
      | exact LeO.none _
      | refine LeO.ite ?_ ?_
      | refine LeO.bind ?_ (fun _ => ?_)
    · intro y0 y1 y2 y3 y4
      unfold stratumlaw13_TableCounts.j1
      repeat' first
      | (with_reducible exact ih0 _ _ _ _ _)
      | (with_reducible exact ih1 _ _ _ _ _)
      | (with_reducible exact ih2 _ _ _ _ _)
      | (with_reducible exact ih3 _ _ _ _ _)
      | (with_reducible exact stratumlaw13_awake.mono _)
      | (with_reducible exact table_Columns.mono _ _ _ _)
      | (with_reducible exact LeO.refl _)
      | (with_reducible exact LeO.none _)
      | (with_reducible refine LeO.ite ?_ ?_)
      | (with_reducible refine LeO.bind ?_ (fun _ => ?_))
      | exact ih0 _ _ _ _ _
      | exact ih1 _ _ _ _ _
      | exact ih2 _ _ _ _ _
      | exact ih3 _ _ _ _ _
      | exact stratumlaw13_awake.mono _
      | exact table_Columns.mono _ _ _ _
      | exact LeO.none _
      | refine LeO.ite ?_ ?_
      | refine LeO.bind ?_ (fun _ => ?_)
    · intro y0 y1 y2 y3 y4
      unfold stratumlaw13_TableCounts.j2
      repeat' first
      | (with_reducible exact ih0 _ _ _ _ _)
      | (with_reducible exact ih1 _ _ _ _ _)
      | (with_reducible exact ih2 _ _ _ _ _)
      | (with_reducible exact ih3 _ _ _ _ _)
      | (with_reducible exact stratumlaw13_awake.mono _)
      | (with_reducible exact table_Columns.mono _ _ _ _)
      | (with_reducible exact LeO.refl _)
      | (with_reducible exact LeO.none _)
      | (with_reducible refine LeO.ite ?_ ?_)
      | (with_reducible refine LeO.bind ?_ (fun _ => ?_))
      | exact ih0 _ _ _ _ _
      | exact ih1 _ _ _ _ _
      | exact ih2 _ _ _ _ _
      | exact ih3 _ _ _ _ _
      | exact stratumlaw13_awake.mono _
      | exact table_Columns.mono _ _ _ _
      | exact LeO.none _
      | refine LeO.ite ?_ ?_
      | refine LeO.bind ?_ (fun _ => ?_)
    · intro y0 y1 y2 y3 y4
      unfold stratumlaw13_TableCounts.l0
      repeat' first
      | (with_reducible exact ih0 _ _ _ _ _)
      | (with_reducible exact ih1 _ _ _ _ _)
      | (with_reducible exact ih2 _ _ _ _ _)
      | (with_reducible exact ih3 _ _ _ _ _)
      | (with_reducible exact stratumlaw13_awake.mono _)
      | (with_reducible exact table_Columns.mono _ _ _ _)
      | (with_reducible exact LeO.refl _)
      | (with_reducible exact LeO.none _)
      | (with_reducible refine LeO.ite ?_ ?_)
      | (with_reducible refine LeO.bind ?_ (fun _ => ?_))
      | exact ih0 _ _ _ _ _
      | exact ih1 _ _ _ _ _
      | exact ih2 _ _ _ _ _
      | exact ih3 _ _ _ _ _
      | exact stratumlaw13_awake.mono _
      | exact table_Columns.mono _ _ _ _
      | exact LeO.none _
      | refine LeO.ite ?_ ?_
      | refine LeO.bind ?_ (fun _ => ?_)
theorem stratumlaw13_TableCounts.mono : ∀ a0 a1 a2 k, LeO (stratumlaw13_TableCounts.f k a0 a1 a2) (stratumlaw13_TableCounts.f (k + 1) a0 a1 a2) := by
  intro a0 a1 a2 k
  obtain ⟨ih0, ih1, ih2, ih3⟩ := stratumlaw13_TableCounts.mono_l k
  unfold stratumlaw13_TableCounts.f
  repeat' first
      | (with_reducible exact ih0 _ _ _ _ _)
      | (with_reducible exact ih1 _ _ _ _ _)
      | (with_reducible exact ih2 _ _ _ _ _)
      | (with_reducible exact ih3 _ _ _ _ _)
      | (with_reducible exact stratumlaw13_awake.mono _)
      | (with_reducible exact table_Columns.mono _ _ _ _)
      | (with_reducible exact LeO.refl _)
      | (with_reducible exact LeO.none _)
      | (with_reducible refine LeO.ite ?_ ?_)
      | (with_reducible refine LeO.bind ?_ (fun _ => ?_))
      | exact ih0 _ _ _ _ _
      | exact ih1 _ _ _ _ _
      | exact ih2 _ _ _ _ _
      | exact ih3 _ _ _ _ _
      | exact stratumlaw13_awake.mono _
      | exact table_Columns.mono _ _ _ _
      | exact LeO.none _
      | refine LeO.ite ?_ ?_
      | refine LeO.bind ?_ (fun _ => ?_)
set_option maxHeartbeats 8000000 in
set_option maxRecDepth 100000 in
theorem stratumlaw13_TableCounts.calls (k : Nat) (A0_0 : Option Addr) (c0_0 : Nat) (l0_0 : List (S48)) (a1 : Int) (a2 : Int) (r : Bool) (w : World) (hr0_0 : Kd.C k48 w A0_0 l0_0.length l0_0) (hc0_0 : l0_0.length ≤ c0_0) (h : stratumlaw13_TableCounts.f k l0_0 a1 a2 = some r) (hr_ : Aside0 (r = true)) :
    Calls Try.prog 7 #[.agg #[.slice A0_0 l0_0.length c0_0], .int .i64 a1, .int .i64 a2] w fun e w' => e = .returned (.bool r) ∧ Below w.heap.size w w' := by
  have hu24 := Try.underlying24
  have hu48 := Try.underlying48
  have HR0_0 := Aside0.mk hr0_0
  have HC0_0 := Aside0.mk hc0_0
  clear hr0_0 hc0_0
  have HB := Aside0.mk (Below.refl w.heap.size w)
  have H : ((stratumlaw13_awake.f k).bind fun t425 => (if t425 = true then ((table_Columns.f k l0_0 a1 a2).bind fun bt426 => (if a1 < 0 then (stratumlaw13_TableCounts.j0 k a1 a2 bt426.2 true l0_0) else (stratumlaw13_TableCounts.j0 k a1 a2 bt426.2 (decide ((l0_0.length : Int) ≤ a1)) l0_0))) else (some false))) = some r := h
  clear h
  replace H := Option.bind_eq_some_iff.mp H
  obtain ⟨t425, A40, H⟩ := H
  replace H : (if t425 = true then ((table_Columns.f k l0_0 a1 a2).bind fun bt426 => (if a1 < 0 then (stratumlaw13_TableCounts.j0 k a1 a2 bt426.2 true l0_0) else (stratumlaw13_TableCounts.j0 k a1 a2 bt426.2 (decide ((l0_0.length : Int) ≤ a1)) l0_0))) else (some false)) = some r := H
  have A4 := Aside0.mk A40
  clear A40
  by_cases c5 : t425 = true
  · subst c5
    have H1 : ((table_Columns.f k l0_0 a1 a2).bind fun bt426 => (if a1 < 0 then (stratumlaw13_TableCounts.j0 k a1 a2 bt426.2 true l0_0) else (stratumlaw13_TableCounts.j0 k a1 a2 bt426.2 (decide ((l0_0.length : Int) ≤ a1)) l0_0))) = some r := by rw [if_pos rfl] at H; exact H
    clear H
    have H := H1
    clear H1
    replace H := Option.bind_eq_some_iff.mp H
    obtain ⟨⟨t426, t429⟩, A60, H⟩ := H
    replace H : (if a1 < 0 then (stratumlaw13_TableCounts.j0 k a1 a2 t429 true l0_0) else (stratumlaw13_TableCounts.j0 k a1 a2 t429 (decide ((l0_0.length : Int) ≤ a1)) l0_0)) = some r := H
    have A6 := Aside0.mk A60
    clear A60
    have HC7 := Aside0.mk H
    clear H
    go_enter Try.func7, Try.ntmps7
    go_upto_region 4 with (first | ((with_reducible refine gate_dst (N := 3) rfl ?_); (try (refine gate_guard (by rfl) ?_; dsimp only)); refine box_event ?hg (N := 3) ?hd (cs := #[.slice A0_0 l0_0.length c0_0]) (t := 24) ?hr ?_; (case hd => rfl); (case hg => rfl); (case hr => first | (go_simp; done) | (go_simp; rfl)); intro gb424 hg w8 hbox hb; have n0_ := Aside0.mk (below_step (by repeat (first | (with_reducible first | exact HB.out | apply below_alloc | apply pw_below_drewN | apply below_drew1) | exact HB.out)) hb); have n1_ := Aside0.mk (hbox); have n2_ := Aside0.mk ((by rw [hg]; exact (below_size (by repeat (first | (with_reducible first | exact HB.out | apply below_alloc | apply pw_below_drewN | apply below_drew1) | exact HB.out))) : w.heap.size ≤ gb424)); have n3_ := Aside0.mk ((by rw [hg]; exact (below_size (by repeat (first | (with_reducible first | exact HB.out | apply below_alloc | apply pw_below_drewN | apply below_drew1) | exact HB.out))) : w.heap.size ≤ gb424)); clear HB; have HB := n0_; have BK424 := n1_; have GW424 := n2_; have GE424 := n3_; clear n0_ n1_ n2_ n3_; clear hb hbox hg) | (go_at_call 18; (with_reducible refine (stratumlaw13_awake.calls k  true _ A4.out).mono ?_); rintro e w9 ⟨rfl, hb⟩; have n0_ := Aside0.mk (blk_below (g := gb424) (o := .cells #[.slice A0_0 l0_0.length c0_0] 24 (0, 0)) (by (with_reducible repeat (first | refine blk_drewN ?_ _ | refine blk_drew ?_ | refine blk_alloc ?_ _)); exact BK424.out) hb); have n1_ := Aside0.mk (below_step (by repeat (first | (with_reducible first | exact HB.out | apply below_alloc | apply pw_below_drewN | apply below_drew1 | refine below_set ?_ GE424.out) | exact HB.out)) hb); clear BK424; clear HB; have BK424 := n0_; have HB := n1_; clear n0_ n1_; (try clear hb); (try clear hb2); (try clear hk); (try clear hi); have hcz10_0 : w9.cell? ⟨gb424, 0, none⟩ = some (.slice A0_0 l0_0.length c0_0) := (blk_cell BK424.out 0).trans rfl; have hfz10_0 := blk_frozen BK424.out 0) | (go_at_call 21; (with_reducible refine (table_Columns.calls k _ _ l0_0 a1 a2 t426 t429 _ ?side1 ?side2 A6.out).mono ?_); (case side1 => repeat (first | exact (Kd.C_below HR0_0.out HB.out) | (with_reducible refine Kd.C_alloc ?_ _) | (with_reducible refine Kd.C_drewN ?_ _) | (with_reducible refine Kd.C_drew ?_))); (case side2 => exact HC0_0.out); rintro e w11 ⟨v427, rfl, ho0, hb⟩; have n0_ := Aside0.mk (Kd.R_lower ho0 (below_size (by repeat (first | (with_reducible first | exact HB.out | apply below_alloc | apply pw_below_drewN | apply below_drew1 | refine below_set ?_ GE424.out) | exact HB.out)))); have n1_ := Aside0.mk (blk_below (g := gb424) (o := .cells #[.slice A0_0 l0_0.length c0_0] 24 (0, 0)) (by (with_reducible repeat (first | refine blk_drewN ?_ _ | refine blk_drew ?_ | refine blk_alloc ?_ _)); exact BK424.out) hb); have n2_ := Aside0.mk (below_step (by repeat (first | (with_reducible first | exact HB.out | apply below_alloc | apply pw_below_drewN | apply below_drew1 | refine below_set ?_ GE424.out) | exact HB.out)) hb); clear BK424; clear HB; have HO428 := n0_; have BK424 := n1_; have HB := n2_; clear n0_ n1_ n2_; (try clear hb); (try clear hb2); (try clear hk); (try clear hi); (try clear ho0)))
    repeat (go_quiet (first | ((with_reducible refine gate_dst (N := 3) rfl ?_); (try (refine gate_guard (by rfl) ?_; dsimp only)); refine box_event ?hg (N := 3) ?hd (cs := #[.slice A0_0 l0_0.length c0_0]) (t := 24) ?hr ?_; (case hd => rfl); (case hg => rfl); (case hr => first | (go_simp; done) | (go_simp; rfl)); intro gb424 hg w8 hbox hb; have n0_ := Aside0.mk (below_step (by repeat (first | (with_reducible first | exact HB.out | apply below_alloc | apply pw_below_drewN | apply below_drew1) | exact HB.out)) hb); have n1_ := Aside0.mk (hbox); have n2_ := Aside0.mk ((by rw [hg]; exact (below_size (by repeat (first | (with_reducible first | exact HB.out | apply below_alloc | apply pw_below_drewN | apply below_drew1) | exact HB.out))) : w.heap.size ≤ gb424)); have n3_ := Aside0.mk ((by rw [hg]; exact (below_size (by repeat (first | (with_reducible first | exact HB.out | apply below_alloc | apply pw_below_drewN | apply below_drew1) | exact HB.out))) : w.heap.size ≤ gb424)); clear HB; have HB := n0_; have BK424 := n1_; have GW424 := n2_; have GE424 := n3_; clear n0_ n1_ n2_ n3_; clear hb hbox hg) | (go_at_call 18; (with_reducible refine (stratumlaw13_awake.calls k  true _ A4.out).mono ?_); rintro e w9 ⟨rfl, hb⟩; have n0_ := Aside0.mk (blk_below (g := gb424) (o := .cells #[.slice A0_0 l0_0.length c0_0] 24 (0, 0)) (by (with_reducible repeat (first | refine blk_drewN ?_ _ | refine blk_drew ?_ | refine blk_alloc ?_ _)); exact BK424.out) hb); have n1_ := Aside0.mk (below_step (by repeat (first | (with_reducible first | exact HB.out | apply below_alloc | apply pw_below_drewN | apply below_drew1 | refine below_set ?_ GE424.out) | exact HB.out)) hb); clear BK424; clear HB; have BK424 := n0_; have HB := n1_; clear n0_ n1_; (try clear hb); (try clear hb2); (try clear hk); (try clear hi); have hcz10_0 : w9.cell? ⟨gb424, 0, none⟩ = some (.slice A0_0 l0_0.length c0_0) := (blk_cell BK424.out 0).trans rfl; have hfz10_0 := blk_frozen BK424.out 0) | (go_at_call 21; (with_reducible refine (table_Columns.calls k _ _ l0_0 a1 a2 t426 t429 _ ?side1 ?side2 A6.out).mono ?_); (case side1 => repeat (first | exact (Kd.C_below HR0_0.out HB.out) | (with_reducible refine Kd.C_alloc ?_ _) | (with_reducible refine Kd.C_drewN ?_ _) | (with_reducible refine Kd.C_drew ?_))); (case side2 => exact HC0_0.out); rintro e w11 ⟨v427, rfl, ho0, hb⟩; have n0_ := Aside0.mk (Kd.R_lower ho0 (below_size (by repeat (first | (with_reducible first | exact HB.out | apply below_alloc | apply pw_below_drewN | apply below_drew1 | refine below_set ?_ GE424.out) | exact HB.out)))); have n1_ := Aside0.mk (blk_below (g := gb424) (o := .cells #[.slice A0_0 l0_0.length c0_0] 24 (0, 0)) (by (with_reducible repeat (first | refine blk_drewN ?_ _ | refine blk_drew ?_ | refine blk_alloc ?_ _)); exact BK424.out) hb); have n2_ := Aside0.mk (below_step (by repeat (first | (with_reducible first | exact HB.out | apply below_alloc | apply pw_below_drewN | apply below_drew1 | refine below_set ?_ GE424.out) | exact HB.out)) hb); clear BK424; clear HB; have HO428 := n0_; have BK424 := n1_; have HB := n2_; clear n0_ n1_ n2_; (try clear hb); (try clear hb2); (try clear hk); (try clear hi); (try clear ho0))); go_upto_region 4 with (first | ((with_reducible refine gate_dst (N := 3) rfl ?_); (try (refine gate_guard (by rfl) ?_; dsimp only)); refine box_event ?hg (N := 3) ?hd (cs := #[.slice A0_0 l0_0.length c0_0]) (t := 24) ?hr ?_; (case hd => rfl); (case hg => rfl); (case hr => first | (go_simp; done) | (go_simp; rfl)); intro gb424 hg w8 hbox hb; have n0_ := Aside0.mk (below_step (by repeat (first | (with_reducible first | exact HB.out | apply below_alloc | apply pw_below_drewN | apply below_drew1) | exact HB.out)) hb); have n1_ := Aside0.mk (hbox); have n2_ := Aside0.mk ((by rw [hg]; exact (below_size (by repeat (first | (with_reducible first | exact HB.out | apply below_alloc | apply pw_below_drewN | apply below_drew1) | exact HB.out))) : w.heap.size ≤ gb424)); have n3_ := Aside0.mk ((by rw [hg]; exact (below_size (by repeat (first | (with_reducible first | exact HB.out | apply below_alloc | apply pw_below_drewN | apply below_drew1) | exact HB.out))) : w.heap.size ≤ gb424)); clear HB; have HB := n0_; have BK424 := n1_; have GW424 := n2_; have GE424 := n3_; clear n0_ n1_ n2_ n3_; clear hb hbox hg) | (go_at_call 18; (with_reducible refine (stratumlaw13_awake.calls k  true _ A4.out).mono ?_); rintro e w9 ⟨rfl, hb⟩; have n0_ := Aside0.mk (blk_below (g := gb424) (o := .cells #[.slice A0_0 l0_0.length c0_0] 24 (0, 0)) (by (with_reducible repeat (first | refine blk_drewN ?_ _ | refine blk_drew ?_ | refine blk_alloc ?_ _)); exact BK424.out) hb); have n1_ := Aside0.mk (below_step (by repeat (first | (with_reducible first | exact HB.out | apply below_alloc | apply pw_below_drewN | apply below_drew1 | refine below_set ?_ GE424.out) | exact HB.out)) hb); clear BK424; clear HB; have BK424 := n0_; have HB := n1_; clear n0_ n1_; (try clear hb); (try clear hb2); (try clear hk); (try clear hi); have hcz10_0 : w9.cell? ⟨gb424, 0, none⟩ = some (.slice A0_0 l0_0.length c0_0) := (blk_cell BK424.out 0).trans rfl; have hfz10_0 := blk_frozen BK424.out 0) | (go_at_call 21; (with_reducible refine (table_Columns.calls k _ _ l0_0 a1 a2 t426 t429 _ ?side1 ?side2 A6.out).mono ?_); (case side1 => repeat (first | exact (Kd.C_below HR0_0.out HB.out) | (with_reducible refine Kd.C_alloc ?_ _) | (with_reducible refine Kd.C_drewN ?_ _) | (with_reducible refine Kd.C_drew ?_))); (case side2 => exact HC0_0.out); rintro e w11 ⟨v427, rfl, ho0, hb⟩; have n0_ := Aside0.mk (Kd.R_lower ho0 (below_size (by repeat (first | (with_reducible first | exact HB.out | apply below_alloc | apply pw_below_drewN | apply below_drew1 | refine below_set ?_ GE424.out) | exact HB.out)))); have n1_ := Aside0.mk (blk_below (g := gb424) (o := .cells #[.slice A0_0 l0_0.length c0_0] 24 (0, 0)) (by (with_reducible repeat (first | refine blk_drewN ?_ _ | refine blk_drew ?_ | refine blk_alloc ?_ _)); exact BK424.out) hb); have n2_ := Aside0.mk (below_step (by repeat (first | (with_reducible first | exact HB.out | apply below_alloc | apply pw_below_drewN | apply below_drew1 | refine below_set ?_ GE424.out) | exact HB.out)) hb); clear BK424; clear HB; have HO428 := n0_; have BK424 := n1_; have HB := n2_; clear n0_ n1_ n2_; (try clear hb); (try clear hb2); (try clear hk); (try clear hi); (try clear ho0))))
    (try simp only [Act.put, List.setIfInBounds_toArray, List.set_cons_zero, List.set_cons_succ])
    go_cut [29] (fun v29 wc => ∃ (kq : Nat) (x29_6 : Bool), v29 = .bool x29_6 ∧ Aside0 (stratumlaw13_TableCounts.j0 kq a1 a2 t429 x29_6 l0_0 = some r) ∧ Aside0 (kq ≤ k) ∧ Aside0 (wc.heap[gb424]? = some (.cells #[(.slice A0_0 l0_0.length c0_0)] 24 (0, 0))) ∧ Aside0 (Below w.heap.size w wc))
    case first =>
      have H := HC7.out
      clear HC7
      by_cases c12 : a1 < 0
      · rw [if_pos c12] at H
        have c12b0 : decide (a1 < 0) = true := decide_eq_true c12
        clear c12
        (first | rw [c12b0] | (simp only [i64_w, i32_w]; rw [c12b0]) | skip)
        have H' := Aside0.mk H
        clear H
        go_wp2
        repeat (go_quiet (fail); try go_wp2)
        go_meet
        case rel => exact ⟨_, (true), (by first | rfl | (simp; done) | (simp [*]; done)), H', ⟨by first | omega | exact Nat.le_refl _⟩, ⟨by (with_reducible repeat (first | refine blk_drewN ?_ _ | refine blk_drew ?_ | refine blk_alloc ?_ _)); exact BK424.out⟩, ⟨by repeat (first | (with_reducible first | exact HB.out | apply below_alloc | apply pw_below_drewN | apply below_drew1 | refine below_set ?_ GE424.out) | exact HB.out)⟩⟩
      · rw [if_neg c12] at H
        have c12b0 : decide (a1 < 0) = false := decide_eq_false c12
        clear c12
        (first | rw [c12b0] | (simp only [i64_w, i32_w]; rw [c12b0]) | skip)
        have H' := Aside0.mk H
        clear H
        have hcz13_0 : w11.cell? ⟨gb424, 0, none⟩ = some (.slice A0_0 l0_0.length c0_0) := (blk_cell BK424.out 0).trans rfl
        have hfz13_0 := blk_frozen BK424.out 0
        go_wp2
        repeat (go_quiet (fail); try go_wp2)
        go_meet
        case rel => exact ⟨_, (decide ((l0_0.length : Int) ≤ a1)), (by first | rfl | (simp; done) | (simp [*]; done)), H', ⟨by first | omega | exact Nat.le_refl _⟩, ⟨by (with_reducible repeat (first | refine blk_drewN ?_ _ | refine blk_drew ?_ | refine blk_alloc ?_ _)); exact BK424.out⟩, ⟨by repeat (first | (with_reducible first | exact HB.out | apply below_alloc | apply pw_below_drewN | apply below_drew1 | refine below_set ?_ GE424.out) | exact HB.out)⟩⟩
    case rest =>
      clear HC7
      try clear c1
      try clear p2
      try clear c5
      try clear c7
      try clear c12
      try clear c12b0
      try clear hcz10_0
      try clear hcz13_0
      try clear hfz10_0
      try clear hfz13_0
      obtain ⟨kq, x29_6, rfl, HA, HJ6, BK424, HB⟩ := hcut
      cases kq with
      | zero => exact absurd HA.out (by simp [stratumlaw13_TableCounts.j0])
      | succ kj6 =>
        have H := HA.out
        clear HA
        simp only [stratumlaw13_TableCounts.j0] at H
        by_cases c14 : x29_6 = true
        · subst c14
          have H1 : (some (t429 == 131)) = some r := by rw [if_pos rfl] at H; exact H
          clear H
          have H := H1
          clear H1
          obtain rfl := Option.some.inj H
          go_wp2
          repeat (go_quiet (fail); try go_wp2)
          go_ret
          exact ⟨by first | rfl | (simp [errW_none, errW_some] <;> rfl) | (simp [*, errW_none, errW_some] <;> rfl), by repeat (first | (with_reducible first | exact HB.out | apply below_alloc | apply pw_below_drewN | apply below_drew1 | refine below_set ?_ GE424.out) | exact HB.out)⟩
        · replace c14 := Bool.eq_false_iff.mpr c14
          subst c14
          have H1 : (if 0 ≤ a1 then (if a1 < (l0_0.length : Int) then (if a2 ≥ 1 then (if a2 ≤ (((rd_T48 l0_0 a1).f1).length : Int) then (if t429 = 0 then (stratumlaw13_TableCounts.j1 kj6 a1 false l0_0 ((rd_T48 l0_0 a1).f0) ((rd_T48 l0_0 a1).f1)) else (stratumlaw13_TableCounts.j1 kj6 a1 true l0_0 ((rd_T48 l0_0 a1).f0) ((rd_T48 l0_0 a1).f1))) else (if t429 = 0 then (stratumlaw13_TableCounts.j1 kj6 a1 true l0_0 ((rd_T48 l0_0 a1).f0) ((rd_T48 l0_0 a1).f1)) else (stratumlaw13_TableCounts.j1 kj6 a1 (t429 != 132) l0_0 ((rd_T48 l0_0 a1).f0) ((rd_T48 l0_0 a1).f1)))) else (if t429 = 0 then (stratumlaw13_TableCounts.j1 kj6 a1 true l0_0 ((rd_T48 l0_0 a1).f0) ((rd_T48 l0_0 a1).f1)) else (stratumlaw13_TableCounts.j1 kj6 a1 (t429 != 132) l0_0 ((rd_T48 l0_0 a1).f0) ((rd_T48 l0_0 a1).f1)))) else (none)) else (none)) = some r := by rw [if_neg (show ¬ (false = true) by decide)] at H; exact H
          clear H
          have H := H1
          clear H1
          by_cases c15 : 0 ≤ a1
          · rw [if_pos c15] at H
            have c15b0 : decide (0 ≤ a1) = true := decide_eq_true c15
            clear c15
            by_cases c16 : a1 < (l0_0.length : Int)
            · rw [if_pos c16] at H
              have c16b0 : decide (a1 < (l0_0.length : Int)) = true := decide_eq_true c16
              clear c16
              have HC17 := Aside0.mk H
              clear H
              have hcz18_0 : wc.cell? ⟨gb424, 0, none⟩ = some (.slice A0_0 l0_0.length c0_0) := (blk_cell BK424.out 0).trans rfl
              have hfz18_0 := blk_frozen BK424.out 0
              have p430 : 0 ≤ (a1 : Int) := of_decide_eq_true (by first | (with_reducible assumption) | assumption)
              have q430 : a1 < (l0_0.length : Int) := of_decide_eq_true (by first | (with_reducible assumption) | assumption)
              obtain ⟨ad430, A430_1, c430_1, e430, hx430_0, hx430_1, hl430_1, hi430_1⟩ := at_T48 HR0_0.out a1 p430 q430
              cases e430
              replace hx430_0 := (HB.out.cell (World.block_lt_of_cell? w _ hx430_0)).trans hx430_0
              replace hx430_1 := (HB.out.cell (World.block_lt_of_cell? w _ hx430_1)).trans hx430_1
              have HR430_1 := Aside0.mk hi430_1
              have HC430_1 := Aside0.mk hl430_1
              clear hi430_1 hl430_1
              replace p430 := eq_true p430
              replace q430 := eq_true q430
              go_upto_region 7 with (first | ((with_reducible refine gate_dst (N := 9) rfl ?_); (try (refine gate_guard (by rfl) ?_; dsimp only)); refine box_event ?hg (N := 9) ?hd (cs := #[.string (⟨#[]⟩ : ByteArray), .slice none 0 0]) (t := 48) ?hr ?_; (case hd => rfl); (case hg => rfl); (case hr => first | (go_simp; done) | (go_simp; rfl)); intro gb431 hg w19 hbox hb; have n0_ := Aside0.mk (blk_below (g := gb424) (o := .cells #[.slice (some ad430) l0_0.length c0_0] 24 (0, 0)) (by (with_reducible repeat (first | refine blk_drewN ?_ _ | refine blk_drew ?_ | refine blk_alloc ?_ _)); exact BK424.out) hb); have n1_ := Aside0.mk (below_step (by repeat (first | (with_reducible first | exact HB.out | apply below_alloc | apply pw_below_drewN | apply below_drew1 | refine below_set ?_ GE424.out) | exact HB.out)) hb); have n2_ := Aside0.mk (hbox); have n3_ := Aside0.mk ((by rw [hg]; exact (below_size (by repeat (first | (with_reducible first | exact HB.out | apply below_alloc | apply pw_below_drewN | apply below_drew1 | refine below_set ?_ GE424.out) | exact HB.out))) : w.heap.size ≤ gb431)); have n4_ := Aside0.mk ((by rw [hg]; exact (below_size (by repeat (first | (with_reducible first | exact HB.out | apply below_alloc | apply pw_below_drewN | apply below_drew1 | refine below_set ?_ GE424.out) | exact HB.out))) : w.heap.size ≤ gb431)); have n5_ := Aside0.mk ((by rw [hg]; exact Nat.ne_of_lt (blk_lt (g := gb424) (o := .cells #[.slice (some ad430) l0_0.length c0_0] 24 (0, 0)) (by (with_reducible repeat (first | refine blk_drewN ?_ _ | refine blk_drew ?_ | refine blk_alloc ?_ _)); exact BK424.out)) : gb424 ≠ gb431)); have n6_ := Aside0.mk ((by rw [hg]; exact Nat.ne_of_gt (blk_lt (g := gb424) (o := .cells #[.slice (some ad430) l0_0.length c0_0] 24 (0, 0)) (by (with_reducible repeat (first | refine blk_drewN ?_ _ | refine blk_drew ?_ | refine blk_alloc ?_ _)); exact BK424.out)) : gb431 ≠ gb424)); clear BK424; clear HB; have BK424 := n0_; have HB := n1_; have BK431 := n2_; have GW431 := n3_; have GE431 := n4_; have NB424_431 := n5_; have NB431_424 := n6_; clear n0_ n1_ n2_ n3_ n4_ n5_ n6_; clear hb hbox hg; have hnb20 := NB431_424.out; have hnc20 := NB424_431.out; have hcz21_0 : w19.cell? ⟨gb431, 0, none⟩ = some (.string (⟨#[]⟩ : ByteArray)) := (blk_cell BK431.out 0).trans rfl; have hcz21_1 : w19.cell? ⟨gb431, 1, none⟩ = some (.slice none 0 0) := (blk_cell BK431.out 1).trans rfl; have hfz21_0 := blk_frozen BK431.out 0; have hfz21_1 := blk_frozen BK431.out 1))
              repeat (go_quiet (first | ((with_reducible refine gate_dst (N := 9) rfl ?_); (try (refine gate_guard (by rfl) ?_; dsimp only)); refine box_event ?hg (N := 9) ?hd (cs := #[.string (⟨#[]⟩ : ByteArray), .slice none 0 0]) (t := 48) ?hr ?_; (case hd => rfl); (case hg => rfl); (case hr => first | (go_simp; done) | (go_simp; rfl)); intro gb431 hg w19 hbox hb; have n0_ := Aside0.mk (blk_below (g := gb424) (o := .cells #[.slice (some ad430) l0_0.length c0_0] 24 (0, 0)) (by (with_reducible repeat (first | refine blk_drewN ?_ _ | refine blk_drew ?_ | refine blk_alloc ?_ _)); exact BK424.out) hb); have n1_ := Aside0.mk (below_step (by repeat (first | (with_reducible first | exact HB.out | apply below_alloc | apply pw_below_drewN | apply below_drew1 | refine below_set ?_ GE424.out) | exact HB.out)) hb); have n2_ := Aside0.mk (hbox); have n3_ := Aside0.mk ((by rw [hg]; exact (below_size (by repeat (first | (with_reducible first | exact HB.out | apply below_alloc | apply pw_below_drewN | apply below_drew1 | refine below_set ?_ GE424.out) | exact HB.out))) : w.heap.size ≤ gb431)); have n4_ := Aside0.mk ((by rw [hg]; exact (below_size (by repeat (first | (with_reducible first | exact HB.out | apply below_alloc | apply pw_below_drewN | apply below_drew1 | refine below_set ?_ GE424.out) | exact HB.out))) : w.heap.size ≤ gb431)); have n5_ := Aside0.mk ((by rw [hg]; exact Nat.ne_of_lt (blk_lt (g := gb424) (o := .cells #[.slice (some ad430) l0_0.length c0_0] 24 (0, 0)) (by (with_reducible repeat (first | refine blk_drewN ?_ _ | refine blk_drew ?_ | refine blk_alloc ?_ _)); exact BK424.out)) : gb424 ≠ gb431)); have n6_ := Aside0.mk ((by rw [hg]; exact Nat.ne_of_gt (blk_lt (g := gb424) (o := .cells #[.slice (some ad430) l0_0.length c0_0] 24 (0, 0)) (by (with_reducible repeat (first | refine blk_drewN ?_ _ | refine blk_drew ?_ | refine blk_alloc ?_ _)); exact BK424.out)) : gb431 ≠ gb424)); clear BK424; clear HB; have BK424 := n0_; have HB := n1_; have BK431 := n2_; have GW431 := n3_; have GE431 := n4_; have NB424_431 := n5_; have NB431_424 := n6_; clear n0_ n1_ n2_ n3_ n4_ n5_ n6_; clear hb hbox hg; have hnb20 := NB431_424.out; have hnc20 := NB424_431.out; have hcz21_0 : w19.cell? ⟨gb431, 0, none⟩ = some (.string (⟨#[]⟩ : ByteArray)) := (blk_cell BK431.out 0).trans rfl; have hcz21_1 : w19.cell? ⟨gb431, 1, none⟩ = some (.slice none 0 0) := (blk_cell BK431.out 1).trans rfl; have hfz21_0 := blk_frozen BK431.out 0; have hfz21_1 := blk_frozen BK431.out 1)); go_upto_region 7 with (first | ((with_reducible refine gate_dst (N := 9) rfl ?_); (try (refine gate_guard (by rfl) ?_; dsimp only)); refine box_event ?hg (N := 9) ?hd (cs := #[.string (⟨#[]⟩ : ByteArray), .slice none 0 0]) (t := 48) ?hr ?_; (case hd => rfl); (case hg => rfl); (case hr => first | (go_simp; done) | (go_simp; rfl)); intro gb431 hg w19 hbox hb; have n0_ := Aside0.mk (blk_below (g := gb424) (o := .cells #[.slice (some ad430) l0_0.length c0_0] 24 (0, 0)) (by (with_reducible repeat (first | refine blk_drewN ?_ _ | refine blk_drew ?_ | refine blk_alloc ?_ _)); exact BK424.out) hb); have n1_ := Aside0.mk (below_step (by repeat (first | (with_reducible first | exact HB.out | apply below_alloc | apply pw_below_drewN | apply below_drew1 | refine below_set ?_ GE424.out) | exact HB.out)) hb); have n2_ := Aside0.mk (hbox); have n3_ := Aside0.mk ((by rw [hg]; exact (below_size (by repeat (first | (with_reducible first | exact HB.out | apply below_alloc | apply pw_below_drewN | apply below_drew1 | refine below_set ?_ GE424.out) | exact HB.out))) : w.heap.size ≤ gb431)); have n4_ := Aside0.mk ((by rw [hg]; exact (below_size (by repeat (first | (with_reducible first | exact HB.out | apply below_alloc | apply pw_below_drewN | apply below_drew1 | refine below_set ?_ GE424.out) | exact HB.out))) : w.heap.size ≤ gb431)); have n5_ := Aside0.mk ((by rw [hg]; exact Nat.ne_of_lt (blk_lt (g := gb424) (o := .cells #[.slice (some ad430) l0_0.length c0_0] 24 (0, 0)) (by (with_reducible repeat (first | refine blk_drewN ?_ _ | refine blk_drew ?_ | refine blk_alloc ?_ _)); exact BK424.out)) : gb424 ≠ gb431)); have n6_ := Aside0.mk ((by rw [hg]; exact Nat.ne_of_gt (blk_lt (g := gb424) (o := .cells #[.slice (some ad430) l0_0.length c0_0] 24 (0, 0)) (by (with_reducible repeat (first | refine blk_drewN ?_ _ | refine blk_drew ?_ | refine blk_alloc ?_ _)); exact BK424.out)) : gb431 ≠ gb424)); clear BK424; clear HB; have BK424 := n0_; have HB := n1_; have BK431 := n2_; have GW431 := n3_; have GE431 := n4_; have NB424_431 := n5_; have NB431_424 := n6_; clear n0_ n1_ n2_ n3_ n4_ n5_ n6_; clear hb hbox hg; have hnb20 := NB431_424.out; have hnc20 := NB424_431.out; have hcz21_0 : w19.cell? ⟨gb431, 0, none⟩ = some (.string (⟨#[]⟩ : ByteArray)) := (blk_cell BK431.out 0).trans rfl; have hcz21_1 : w19.cell? ⟨gb431, 1, none⟩ = some (.slice none 0 0) := (blk_cell BK431.out 1).trans rfl; have hfz21_0 := blk_frozen BK431.out 0; have hfz21_1 := blk_frozen BK431.out 1)))
              (try simp only [Act.put, List.setIfInBounds_toArray, List.set_cons_zero, List.set_cons_succ])
              go_cut [56] (fun v56 wc => ∃ (kq : Nat) (x56_16 : Bool), v56 = .bool x56_16 ∧ Aside0 (stratumlaw13_TableCounts.j1 kq a1 x56_16 l0_0 ((rd_T48 l0_0 a1).f0) ((rd_T48 l0_0 a1).f1) = some r) ∧ Aside0 (kq ≤ kj6) ∧ Aside0 (wc.heap[gb424]? = some (.cells #[(.slice (some ad430) l0_0.length c0_0)] 24 (0, 0))) ∧ Aside0 (wc.heap[gb431]? = some (.cells #[.string ((rd_T48 l0_0 a1).f0), (.slice A430_1 ((rd_T48 l0_0 a1).f1).length c430_1)] 48 (0, 0))) ∧ Aside0 (Below w.heap.size w wc))
              case first =>
                have H := HC17.out
                clear HC17
                by_cases c22 : a2 ≥ 1
                · rw [if_pos c22] at H
                  have c22b0 : decide (1 ≤ a2) = true := decide_eq_true c22
                  clear c22
                  (first | rw [c22b0] | (simp only [i64_w, i32_w]; rw [c22b0]) | skip)
                  by_cases c23 : a2 ≤ (((rd_T48 l0_0 a1).f1).length : Int)
                  · rw [if_pos c23] at H
                    have c23b0 : decide (a2 ≤ (((rd_T48 l0_0 a1).f1).length : Int)) = true := decide_eq_true c23
                    clear c23
                    by_cases c24 : t429 = 0
                    · rw [if_pos c24] at H
                      have c24b0 : (t429 == 0) = true := beq_iff_eq.mpr c24
                      have c24b1 : (t429 != 0) = false := bne_eq_false_iff_eq.mpr c24
                      clear c24
                      have H' := Aside0.mk H
                      clear H
                      have hnb25 := NB431_424.out
                      have hnc25 := NB424_431.out
                      have hcz26_0 : w19.cell? ⟨gb431, 0, none⟩ = some (.string (⟨#[]⟩ : ByteArray)) := (blk_cell BK431.out 0).trans rfl
                      have hcz26_1 : w19.cell? ⟨gb431, 1, none⟩ = some (.slice none 0 0) := (blk_cell BK431.out 1).trans rfl
                      have hfz26_0 := blk_frozen BK431.out 0
                      have hfz26_1 := blk_frozen BK431.out 1
                      go_wp2
                      repeat (go_quiet (fail); try go_wp2)
                      go_meet
                      case rel => exact ⟨_, (false), (by first | rfl | (simp; done) | (simp [*]; done)), H', ⟨by have := HJ6.out; first | omega | exact Nat.le_refl _⟩, ⟨by (with_reducible repeat (first | refine blk_drewN ?_ _ | refine blk_drew ?_ | refine blk_alloc ?_ _)); refine blk_far ?_ NB424_431.out _; (with_reducible repeat (first | refine blk_drewN ?_ _ | refine blk_drew ?_ | refine blk_alloc ?_ _)); refine blk_far ?_ NB424_431.out _; (with_reducible repeat (first | refine blk_drewN ?_ _ | refine blk_drew ?_ | refine blk_alloc ?_ _)); exact BK424.out⟩, ⟨by (with_reducible repeat (first | refine blk_drewN ?_ _ | refine blk_drew ?_ | refine blk_alloc ?_ _)); refine blk_put (cs := #[.string ((rd_T48 l0_0 a1).f0), .slice none 0 0]) ?_ 1 _ rfl; (with_reducible repeat (first | refine blk_drewN ?_ _ | refine blk_drew ?_ | refine blk_alloc ?_ _)); refine blk_put (cs := #[.string (⟨#[]⟩ : ByteArray), .slice none 0 0]) ?_ 0 _ rfl; (with_reducible repeat (first | refine blk_drewN ?_ _ | refine blk_drew ?_ | refine blk_alloc ?_ _)); exact BK431.out⟩, ⟨by repeat (first | (with_reducible first | exact HB.out | apply below_alloc | apply pw_below_drewN | apply below_drew1 | refine below_set ?_ GE424.out | refine below_set ?_ GE431.out) | exact HB.out)⟩⟩
                    · rw [if_neg c24] at H
                      have c24b0 : (t429 == 0) = false := beq_eq_false_iff_ne.mpr c24
                      have c24b1 : (t429 != 0) = true := bne_iff_ne.mpr c24
                      have H' := Aside0.mk H
                      clear H
                      have hnb27 := NB431_424.out
                      have hnc27 := NB424_431.out
                      have hcz28_0 : w19.cell? ⟨gb431, 0, none⟩ = some (.string (⟨#[]⟩ : ByteArray)) := (blk_cell BK431.out 0).trans rfl
                      have hcz28_1 : w19.cell? ⟨gb431, 1, none⟩ = some (.slice none 0 0) := (blk_cell BK431.out 1).trans rfl
                      have hfz28_0 := blk_frozen BK431.out 0
                      have hfz28_1 := blk_frozen BK431.out 1
                      go_wp2
                      repeat (go_quiet (fail); try go_wp2)
                      go_meet
                      case rel => exact ⟨_, (true), (by first | rfl | (simp; done) | (simp [*]; done)), H', ⟨by have := HJ6.out; first | omega | exact Nat.le_refl _⟩, ⟨by (with_reducible repeat (first | refine blk_drewN ?_ _ | refine blk_drew ?_ | refine blk_alloc ?_ _)); refine blk_far ?_ NB424_431.out _; (with_reducible repeat (first | refine blk_drewN ?_ _ | refine blk_drew ?_ | refine blk_alloc ?_ _)); refine blk_far ?_ NB424_431.out _; (with_reducible repeat (first | refine blk_drewN ?_ _ | refine blk_drew ?_ | refine blk_alloc ?_ _)); exact BK424.out⟩, ⟨by (with_reducible repeat (first | refine blk_drewN ?_ _ | refine blk_drew ?_ | refine blk_alloc ?_ _)); refine blk_put (cs := #[.string ((rd_T48 l0_0 a1).f0), .slice none 0 0]) ?_ 1 _ rfl; (with_reducible repeat (first | refine blk_drewN ?_ _ | refine blk_drew ?_ | refine blk_alloc ?_ _)); refine blk_put (cs := #[.string (⟨#[]⟩ : ByteArray), .slice none 0 0]) ?_ 0 _ rfl; (with_reducible repeat (first | refine blk_drewN ?_ _ | refine blk_drew ?_ | refine blk_alloc ?_ _)); exact BK431.out⟩, ⟨by repeat (first | (with_reducible first | exact HB.out | apply below_alloc | apply pw_below_drewN | apply below_drew1 | refine below_set ?_ GE424.out | refine below_set ?_ GE431.out) | exact HB.out)⟩⟩
                  · rw [if_neg c23] at H
                    have c23b0 : decide (a2 ≤ (((rd_T48 l0_0 a1).f1).length : Int)) = false := decide_eq_false c23
                    clear c23
                    by_cases c29 : t429 = 0
                    · rw [if_pos c29] at H
                      have c29b0 : (t429 == 0) = true := beq_iff_eq.mpr c29
                      have c29b1 : (t429 != 0) = false := bne_eq_false_iff_eq.mpr c29
                      clear c29
                      have H' := Aside0.mk H
                      clear H
                      have hnb30 := NB431_424.out
                      have hnc30 := NB424_431.out
                      have hcz31_0 : w19.cell? ⟨gb431, 0, none⟩ = some (.string (⟨#[]⟩ : ByteArray)) := (blk_cell BK431.out 0).trans rfl
                      have hcz31_1 : w19.cell? ⟨gb431, 1, none⟩ = some (.slice none 0 0) := (blk_cell BK431.out 1).trans rfl
                      have hfz31_0 := blk_frozen BK431.out 0
                      have hfz31_1 := blk_frozen BK431.out 1
                      go_wp2
                      repeat (go_quiet (fail); try go_wp2)
                      go_meet
                      case rel => exact ⟨_, (true), (by first | rfl | (simp; done) | (simp [*]; done)), H', ⟨by have := HJ6.out; first | omega | exact Nat.le_refl _⟩, ⟨by (with_reducible repeat (first | refine blk_drewN ?_ _ | refine blk_drew ?_ | refine blk_alloc ?_ _)); refine blk_far ?_ NB424_431.out _; (with_reducible repeat (first | refine blk_drewN ?_ _ | refine blk_drew ?_ | refine blk_alloc ?_ _)); refine blk_far ?_ NB424_431.out _; (with_reducible repeat (first | refine blk_drewN ?_ _ | refine blk_drew ?_ | refine blk_alloc ?_ _)); exact BK424.out⟩, ⟨by (with_reducible repeat (first | refine blk_drewN ?_ _ | refine blk_drew ?_ | refine blk_alloc ?_ _)); refine blk_put (cs := #[.string ((rd_T48 l0_0 a1).f0), .slice none 0 0]) ?_ 1 _ rfl; (with_reducible repeat (first | refine blk_drewN ?_ _ | refine blk_drew ?_ | refine blk_alloc ?_ _)); refine blk_put (cs := #[.string (⟨#[]⟩ : ByteArray), .slice none 0 0]) ?_ 0 _ rfl; (with_reducible repeat (first | refine blk_drewN ?_ _ | refine blk_drew ?_ | refine blk_alloc ?_ _)); exact BK431.out⟩, ⟨by repeat (first | (with_reducible first | exact HB.out | apply below_alloc | apply pw_below_drewN | apply below_drew1 | refine below_set ?_ GE424.out | refine below_set ?_ GE431.out) | exact HB.out)⟩⟩
                    · rw [if_neg c29] at H
                      have c29b0 : (t429 == 0) = false := beq_eq_false_iff_ne.mpr c29
                      have c29b1 : (t429 != 0) = true := bne_iff_ne.mpr c29
                      have H' := Aside0.mk H
                      clear H
                      have hnb32 := NB431_424.out
                      have hnc32 := NB424_431.out
                      have hcz33_0 : w19.cell? ⟨gb431, 0, none⟩ = some (.string (⟨#[]⟩ : ByteArray)) := (blk_cell BK431.out 0).trans rfl
                      have hcz33_1 : w19.cell? ⟨gb431, 1, none⟩ = some (.slice none 0 0) := (blk_cell BK431.out 1).trans rfl
                      have hfz33_0 := blk_frozen BK431.out 0
                      have hfz33_1 := blk_frozen BK431.out 1
                      go_wp2
                      repeat (go_quiet (fail); try go_wp2)
                      go_meet
                      case rel => exact ⟨_, ((t429 != 132)), (by first | rfl | (simp; done) | (simp [*]; done)), H', ⟨by have := HJ6.out; first | omega | exact Nat.le_refl _⟩, ⟨by (with_reducible repeat (first | refine blk_drewN ?_ _ | refine blk_drew ?_ | refine blk_alloc ?_ _)); refine blk_far ?_ NB424_431.out _; (with_reducible repeat (first | refine blk_drewN ?_ _ | refine blk_drew ?_ | refine blk_alloc ?_ _)); refine blk_far ?_ NB424_431.out _; (with_reducible repeat (first | refine blk_drewN ?_ _ | refine blk_drew ?_ | refine blk_alloc ?_ _)); exact BK424.out⟩, ⟨by (with_reducible repeat (first | refine blk_drewN ?_ _ | refine blk_drew ?_ | refine blk_alloc ?_ _)); refine blk_put (cs := #[.string ((rd_T48 l0_0 a1).f0), .slice none 0 0]) ?_ 1 _ rfl; (with_reducible repeat (first | refine blk_drewN ?_ _ | refine blk_drew ?_ | refine blk_alloc ?_ _)); refine blk_put (cs := #[.string (⟨#[]⟩ : ByteArray), .slice none 0 0]) ?_ 0 _ rfl; (with_reducible repeat (first | refine blk_drewN ?_ _ | refine blk_drew ?_ | refine blk_alloc ?_ _)); exact BK431.out⟩, ⟨by repeat (first | (with_reducible first | exact HB.out | apply below_alloc | apply pw_below_drewN | apply below_drew1 | refine below_set ?_ GE424.out | refine below_set ?_ GE431.out) | exact HB.out)⟩⟩
                · rw [if_neg c22] at H
                  have c22b0 : decide (1 ≤ a2) = false := decide_eq_false c22
                  clear c22
                  (first | rw [c22b0] | (simp only [i64_w, i32_w]; rw [c22b0]) | skip)
                  by_cases c34 : t429 = 0
                  · rw [if_pos c34] at H
                    have c34b0 : (t429 == 0) = true := beq_iff_eq.mpr c34
                    have c34b1 : (t429 != 0) = false := bne_eq_false_iff_eq.mpr c34
                    clear c34
                    have H' := Aside0.mk H
                    clear H
                    go_wp2
                    repeat (go_quiet (fail); try go_wp2)
                    go_meet
                    case rel => exact ⟨_, (true), (by first | rfl | (simp; done) | (simp [*]; done)), H', ⟨by have := HJ6.out; first | omega | exact Nat.le_refl _⟩, ⟨by (with_reducible repeat (first | refine blk_drewN ?_ _ | refine blk_drew ?_ | refine blk_alloc ?_ _)); refine blk_far ?_ NB424_431.out _; (with_reducible repeat (first | refine blk_drewN ?_ _ | refine blk_drew ?_ | refine blk_alloc ?_ _)); refine blk_far ?_ NB424_431.out _; (with_reducible repeat (first | refine blk_drewN ?_ _ | refine blk_drew ?_ | refine blk_alloc ?_ _)); exact BK424.out⟩, ⟨by (with_reducible repeat (first | refine blk_drewN ?_ _ | refine blk_drew ?_ | refine blk_alloc ?_ _)); refine blk_put (cs := #[.string ((rd_T48 l0_0 a1).f0), .slice none 0 0]) ?_ 1 _ rfl; (with_reducible repeat (first | refine blk_drewN ?_ _ | refine blk_drew ?_ | refine blk_alloc ?_ _)); refine blk_put (cs := #[.string (⟨#[]⟩ : ByteArray), .slice none 0 0]) ?_ 0 _ rfl; (with_reducible repeat (first | refine blk_drewN ?_ _ | refine blk_drew ?_ | refine blk_alloc ?_ _)); exact BK431.out⟩, ⟨by repeat (first | (with_reducible first | exact HB.out | apply below_alloc | apply pw_below_drewN | apply below_drew1 | refine below_set ?_ GE424.out | refine below_set ?_ GE431.out) | exact HB.out)⟩⟩
                  · rw [if_neg c34] at H
                    have c34b0 : (t429 == 0) = false := beq_eq_false_iff_ne.mpr c34
                    have c34b1 : (t429 != 0) = true := bne_iff_ne.mpr c34
                    have H' := Aside0.mk H
                    clear H
                    go_wp2
                    repeat (go_quiet (fail); try go_wp2)
                    go_meet
                    case rel => exact ⟨_, ((t429 != 132)), (by first | rfl | (simp; done) | (simp [*]; done)), H', ⟨by have := HJ6.out; first | omega | exact Nat.le_refl _⟩, ⟨by (with_reducible repeat (first | refine blk_drewN ?_ _ | refine blk_drew ?_ | refine blk_alloc ?_ _)); refine blk_far ?_ NB424_431.out _; (with_reducible repeat (first | refine blk_drewN ?_ _ | refine blk_drew ?_ | refine blk_alloc ?_ _)); refine blk_far ?_ NB424_431.out _; (with_reducible repeat (first | refine blk_drewN ?_ _ | refine blk_drew ?_ | refine blk_alloc ?_ _)); exact BK424.out⟩, ⟨by (with_reducible repeat (first | refine blk_drewN ?_ _ | refine blk_drew ?_ | refine blk_alloc ?_ _)); refine blk_put (cs := #[.string ((rd_T48 l0_0 a1).f0), .slice none 0 0]) ?_ 1 _ rfl; (with_reducible repeat (first | refine blk_drewN ?_ _ | refine blk_drew ?_ | refine blk_alloc ?_ _)); refine blk_put (cs := #[.string (⟨#[]⟩ : ByteArray), .slice none 0 0]) ?_ 0 _ rfl; (with_reducible repeat (first | refine blk_drewN ?_ _ | refine blk_drew ?_ | refine blk_alloc ?_ _)); exact BK431.out⟩, ⟨by repeat (first | (with_reducible first | exact HB.out | apply below_alloc | apply pw_below_drewN | apply below_drew1 | refine below_set ?_ GE424.out | refine below_set ?_ GE431.out) | exact HB.out)⟩⟩
              case rest =>
                clear HC17
                try clear c1
                try clear c2
                try clear p2
                try clear c3
                try clear c4
                try clear p4
                try clear q4
                try clear hx4
                try clear c5
                try clear c7
                try clear c12
                try clear c12b0
                try clear c14
                try clear c15
                try clear c15b0
                try clear c16
                try clear c16b0
                try clear c20
                try clear c22
                try clear c22b0
                try clear c23
                try clear c23b0
                try clear c24
                try clear c24b0
                try clear c24b1
                try clear c25
                try clear c27
                try clear c29
                try clear c29b0
                try clear c29b1
                try clear c30
                try clear c32
                try clear c34
                try clear c34b0
                try clear c34b1
                try clear hcz10_0
                try clear hcz13_0
                try clear hcz18_0
                try clear hcz21_0
                try clear hcz21_1
                try clear hcz26_0
                try clear hcz26_1
                try clear hcz28_0
                try clear hcz28_1
                try clear hcz31_0
                try clear hcz31_1
                try clear hcz33_0
                try clear hcz33_1
                try clear hfz10_0
                try clear hfz13_0
                try clear hfz18_0
                try clear hfz21_0
                try clear hfz21_1
                try clear hfz26_0
                try clear hfz26_1
                try clear hfz28_0
                try clear hfz28_1
                try clear hfz31_0
                try clear hfz31_1
                try clear hfz33_0
                try clear hfz33_1
                try clear hx430_0
                try clear hx430_1
                try clear p2
                try clear p430
                try clear q430
                obtain ⟨kq, x56_16, rfl, HA, HJ16, BK424, BK431, HB⟩ := hcut
                cases kq with
                | zero => exact absurd HA.out (by simp [stratumlaw13_TableCounts.j1])
                | succ kj16 =>
                  have H := HA.out
                  clear HA
                  simp only [stratumlaw13_TableCounts.j1] at H
                  by_cases c35 : x56_16 = true
                  · subst c35
                    have H1 : (some false) = some r := by rw [if_pos rfl] at H; exact H
                    clear H
                    have H := H1
                    clear H1
                    exact absurd ((Option.some.inj H).trans hr_.out) (by simp)
                  · replace c35 := Bool.eq_false_iff.mpr c35
                    subst c35
                    have H1 : ((table_Find.f l0_0 ((rd_T48 l0_0 a1).f0)).bind fun t432 => (if t432 < 0 then (stratumlaw13_TableCounts.j2 kj16 t432 true l0_0 ((rd_T48 l0_0 a1).f0) ((rd_T48 l0_0 a1).f1)) else (if t432 > a1 then (stratumlaw13_TableCounts.j2 kj16 t432 true l0_0 ((rd_T48 l0_0 a1).f0) ((rd_T48 l0_0 a1).f1)) else (if 0 ≤ t432 then (if t432 < (l0_0.length : Int) then (stratumlaw13_TableCounts.j2 kj16 t432 (((rd_T48 l0_0 t432).f0).toList != ((rd_T48 l0_0 a1).f0).toList) l0_0 ((rd_T48 l0_0 a1).f0) ((rd_T48 l0_0 a1).f1)) else (none)) else (none))))) = some r := by rw [if_neg (show ¬ (false = true) by decide)] at H; exact H
                    clear H
                    have H := H1
                    clear H1
                    replace H := Option.bind_eq_some_iff.mp H
                    obtain ⟨t432, A360, H⟩ := H
                    replace H : (if t432 < 0 then (stratumlaw13_TableCounts.j2 kj16 t432 true l0_0 ((rd_T48 l0_0 a1).f0) ((rd_T48 l0_0 a1).f1)) else (if t432 > a1 then (stratumlaw13_TableCounts.j2 kj16 t432 true l0_0 ((rd_T48 l0_0 a1).f0) ((rd_T48 l0_0 a1).f1)) else (if 0 ≤ t432 then (if t432 < (l0_0.length : Int) then (stratumlaw13_TableCounts.j2 kj16 t432 (((rd_T48 l0_0 t432).f0).toList != ((rd_T48 l0_0 a1).f0).toList) l0_0 ((rd_T48 l0_0 a1).f0) ((rd_T48 l0_0 a1).f1)) else (none)) else (none)))) = some r := H
                    have A36 := Aside0.mk A360
                    clear A360
                    have HC37 := Aside0.mk H
                    clear H
                    have hnb38 := NB424_431.out
                    have hnc38 := NB431_424.out
                    have hcz39_0 : wc.cell? ⟨gb424, 0, none⟩ = some (.slice (some ad430) l0_0.length c0_0) := (blk_cell BK424.out 0).trans rfl
                    have hfz39_0 := blk_frozen BK424.out 0
                    have hcz40_0 : wc.cell? ⟨gb431, 0, none⟩ = some (.string ((rd_T48 l0_0 a1).f0)) := (blk_cell BK431.out 0).trans rfl
                    have hcz40_1 : wc.cell? ⟨gb431, 1, none⟩ = some (.slice A430_1 ((rd_T48 l0_0 a1).f1).length c430_1) := (blk_cell BK431.out 1).trans rfl
                    have hfz40_0 := blk_frozen BK431.out 0
                    have hfz40_1 := blk_frozen BK431.out 1
                    go_upto_region 10 with (first | (go_at_call 19; (with_reducible refine (table_Find.calls _ _ l0_0 ((rd_T48 l0_0 a1).f0) t432 _ ?side1 ?side2 A36.out).mono ?_); (case side1 => repeat (first | exact (Kd.C_below HR0_0.out HB.out) | (with_reducible refine Kd.C_alloc ?_ _) | (with_reducible refine Kd.C_drewN ?_ _) | (with_reducible refine Kd.C_drew ?_))); (case side2 => exact HC0_0.out); rintro e w41 ⟨rfl, hb⟩; have n0_ := Aside0.mk (blk_below (g := gb424) (o := .cells #[.slice (some ad430) l0_0.length c0_0] 24 (0, 0)) (by (with_reducible repeat (first | refine blk_drewN ?_ _ | refine blk_drew ?_ | refine blk_alloc ?_ _)); exact BK424.out) hb); have n1_ := Aside0.mk (blk_below (g := gb431) (o := .cells #[.string ((rd_T48 l0_0 a1).f0), .slice A430_1 ((rd_T48 l0_0 a1).f1).length c430_1] 48 (0, 0)) (by (with_reducible repeat (first | refine blk_drewN ?_ _ | refine blk_drew ?_ | refine blk_alloc ?_ _)); exact BK431.out) hb); have n2_ := Aside0.mk (below_step (by repeat (first | (with_reducible first | exact HB.out | apply below_alloc | apply pw_below_drewN | apply below_drew1 | refine below_set ?_ GE424.out | refine below_set ?_ GE431.out) | exact HB.out)) hb); clear BK424; clear BK431; clear HB; have BK424 := n0_; have BK431 := n1_; have HB := n2_; clear n0_ n1_ n2_; (try clear hb); (try clear hb2); (try clear hk); (try clear hi)))
                    repeat (go_quiet (first | (go_at_call 19; (with_reducible refine (table_Find.calls _ _ l0_0 ((rd_T48 l0_0 a1).f0) t432 _ ?side1 ?side2 A36.out).mono ?_); (case side1 => repeat (first | exact (Kd.C_below HR0_0.out HB.out) | (with_reducible refine Kd.C_alloc ?_ _) | (with_reducible refine Kd.C_drewN ?_ _) | (with_reducible refine Kd.C_drew ?_))); (case side2 => exact HC0_0.out); rintro e w41 ⟨rfl, hb⟩; have n0_ := Aside0.mk (blk_below (g := gb424) (o := .cells #[.slice (some ad430) l0_0.length c0_0] 24 (0, 0)) (by (with_reducible repeat (first | refine blk_drewN ?_ _ | refine blk_drew ?_ | refine blk_alloc ?_ _)); exact BK424.out) hb); have n1_ := Aside0.mk (blk_below (g := gb431) (o := .cells #[.string ((rd_T48 l0_0 a1).f0), .slice A430_1 ((rd_T48 l0_0 a1).f1).length c430_1] 48 (0, 0)) (by (with_reducible repeat (first | refine blk_drewN ?_ _ | refine blk_drew ?_ | refine blk_alloc ?_ _)); exact BK431.out) hb); have n2_ := Aside0.mk (below_step (by repeat (first | (with_reducible first | exact HB.out | apply below_alloc | apply pw_below_drewN | apply below_drew1 | refine below_set ?_ GE424.out | refine below_set ?_ GE431.out) | exact HB.out)) hb); clear BK424; clear BK431; clear HB; have BK424 := n0_; have BK431 := n1_; have HB := n2_; clear n0_ n1_ n2_; (try clear hb); (try clear hb2); (try clear hk); (try clear hi))); go_upto_region 10 with (first | (go_at_call 19; (with_reducible refine (table_Find.calls _ _ l0_0 ((rd_T48 l0_0 a1).f0) t432 _ ?side1 ?side2 A36.out).mono ?_); (case side1 => repeat (first | exact (Kd.C_below HR0_0.out HB.out) | (with_reducible refine Kd.C_alloc ?_ _) | (with_reducible refine Kd.C_drewN ?_ _) | (with_reducible refine Kd.C_drew ?_))); (case side2 => exact HC0_0.out); rintro e w41 ⟨rfl, hb⟩; have n0_ := Aside0.mk (blk_below (g := gb424) (o := .cells #[.slice (some ad430) l0_0.length c0_0] 24 (0, 0)) (by (with_reducible repeat (first | refine blk_drewN ?_ _ | refine blk_drew ?_ | refine blk_alloc ?_ _)); exact BK424.out) hb); have n1_ := Aside0.mk (blk_below (g := gb431) (o := .cells #[.string ((rd_T48 l0_0 a1).f0), .slice A430_1 ((rd_T48 l0_0 a1).f1).length c430_1] 48 (0, 0)) (by (with_reducible repeat (first | refine blk_drewN ?_ _ | refine blk_drew ?_ | refine blk_alloc ?_ _)); exact BK431.out) hb); have n2_ := Aside0.mk (below_step (by repeat (first | (with_reducible first | exact HB.out | apply below_alloc | apply pw_below_drewN | apply below_drew1 | refine below_set ?_ GE424.out | refine below_set ?_ GE431.out) | exact HB.out)) hb); clear BK424; clear BK431; clear HB; have BK424 := n0_; have BK431 := n1_; have HB := n2_; clear n0_ n1_ n2_; (try clear hb); (try clear hb2); (try clear hk); (try clear hi))))
                    (try simp only [Act.put, List.setIfInBounds_toArray, List.set_cons_zero, List.set_cons_succ])
                    go_cut [78] (fun v78 wc => ∃ (kq : Nat) (x78_36 : Bool), v78 = .bool x78_36 ∧ Aside0 (stratumlaw13_TableCounts.j2 kq t432 x78_36 l0_0 ((rd_T48 l0_0 a1).f0) ((rd_T48 l0_0 a1).f1) = some r) ∧ Aside0 (kq ≤ kj16) ∧ Aside0 (wc.heap[gb424]? = some (.cells #[(.slice (some ad430) l0_0.length c0_0)] 24 (0, 0))) ∧ Aside0 (wc.heap[gb431]? = some (.cells #[.string ((rd_T48 l0_0 a1).f0), (.slice A430_1 ((rd_T48 l0_0 a1).f1).length c430_1)] 48 (0, 0))) ∧ Aside0 (Below w.heap.size w wc))
                    case first =>
                      have H := HC37.out
                      clear HC37
                      by_cases c42 : t432 < 0
                      · rw [if_pos c42] at H
                        have c42b0 : decide (t432 < 0) = true := decide_eq_true c42
                        clear c42
                        (first | rw [c42b0] | (simp only [i64_w, i32_w]; rw [c42b0]) | skip)
                        have H' := Aside0.mk H
                        clear H
                        go_wp2
                        repeat (go_quiet (fail); try go_wp2)
                        go_meet
                        case rel => exact ⟨_, (true), (by first | rfl | (simp; done) | (simp [*]; done)), H', ⟨by have := HJ6.out; have := HJ16.out; first | omega | exact Nat.le_refl _⟩, ⟨by (with_reducible repeat (first | refine blk_drewN ?_ _ | refine blk_drew ?_ | refine blk_alloc ?_ _)); exact BK424.out⟩, ⟨by (with_reducible repeat (first | refine blk_drewN ?_ _ | refine blk_drew ?_ | refine blk_alloc ?_ _)); exact BK431.out⟩, ⟨by repeat (first | (with_reducible first | exact HB.out | apply below_alloc | apply pw_below_drewN | apply below_drew1 | refine below_set ?_ GE424.out | refine below_set ?_ GE431.out) | exact HB.out)⟩⟩
                      · rw [if_neg c42] at H
                        have c42b0 : decide (t432 < 0) = false := decide_eq_false c42
                        clear c42
                        (first | rw [c42b0] | (simp only [i64_w, i32_w]; rw [c42b0]) | skip)
                        by_cases c43 : t432 > a1
                        · rw [if_pos c43] at H
                          have c43b0 : decide (a1 < t432) = true := decide_eq_true c43
                          clear c43
                          have H' := Aside0.mk H
                          clear H
                          go_wp2
                          repeat (go_quiet (fail); try go_wp2)
                          go_meet
                          case rel => exact ⟨_, (true), (by first | rfl | (simp; done) | (simp [*]; done)), H', ⟨by have := HJ6.out; have := HJ16.out; first | omega | exact Nat.le_refl _⟩, ⟨by (with_reducible repeat (first | refine blk_drewN ?_ _ | refine blk_drew ?_ | refine blk_alloc ?_ _)); exact BK424.out⟩, ⟨by (with_reducible repeat (first | refine blk_drewN ?_ _ | refine blk_drew ?_ | refine blk_alloc ?_ _)); exact BK431.out⟩, ⟨by repeat (first | (with_reducible first | exact HB.out | apply below_alloc | apply pw_below_drewN | apply below_drew1 | refine below_set ?_ GE424.out | refine below_set ?_ GE431.out) | exact HB.out)⟩⟩
                        · rw [if_neg c43] at H
                          have c43b0 : decide (a1 < t432) = false := decide_eq_false c43
                          clear c43
                          by_cases c44 : 0 ≤ t432
                          · rw [if_pos c44] at H
                            have c44b0 : decide (0 ≤ t432) = true := decide_eq_true c44
                            clear c44
                            by_cases c45 : t432 < (l0_0.length : Int)
                            · rw [if_pos c45] at H
                              have c45b0 : decide (t432 < (l0_0.length : Int)) = true := decide_eq_true c45
                              clear c45
                              have H' := Aside0.mk H
                              clear H
                              have hnb46 := NB424_431.out
                              have hnc46 := NB431_424.out
                              have hcz47_0 : w41.cell? ⟨gb424, 0, none⟩ = some (.slice (some ad430) l0_0.length c0_0) := (blk_cell BK424.out 0).trans rfl
                              have hfz47_0 := blk_frozen BK424.out 0
                              have p433 : 0 ≤ (t432 : Int) := of_decide_eq_true (by first | (with_reducible assumption) | assumption)
                              have q433 : t432 < (l0_0.length : Int) := of_decide_eq_true (by first | (with_reducible assumption) | assumption)
                              obtain ⟨ad433, A433_1, c433_1, e433, hx433_0, hx433_1, hl433_1, hi433_1⟩ := at_T48 HR0_0.out t432 p433 q433
                              obtain rfl : ad430 = ad433 := (by injection e433)
                              replace hx433_0 := (HB.out.cell (World.block_lt_of_cell? w _ hx433_0)).trans hx433_0
                              replace hx433_1 := (HB.out.cell (World.block_lt_of_cell? w _ hx433_1)).trans hx433_1
                              have HR433_1 := Aside0.mk hi433_1
                              have HC433_1 := Aside0.mk hl433_1
                              clear hi433_1 hl433_1
                              replace p433 := eq_true p433
                              replace q433 := eq_true q433
                              have hcz48_0 : w41.cell? ⟨gb431, 0, none⟩ = some (.string ((rd_T48 l0_0 a1).f0)) := (blk_cell BK431.out 0).trans rfl
                              have hcz48_1 : w41.cell? ⟨gb431, 1, none⟩ = some (.slice A430_1 ((rd_T48 l0_0 a1).f1).length c430_1) := (blk_cell BK431.out 1).trans rfl
                              have hfz48_0 := blk_frozen BK431.out 0
                              have hfz48_1 := blk_frozen BK431.out 1
                              go_wp2
                              repeat (go_quiet (fail); try go_wp2)
                              go_meet
                              case rel => exact ⟨_, ((((rd_T48 l0_0 t432).f0).toList != ((rd_T48 l0_0 a1).f0).toList)), (by first | rfl | (simp; done) | (simp [*]; done)), H', ⟨by have := HJ6.out; have := HJ16.out; first | omega | exact Nat.le_refl _⟩, ⟨by (with_reducible repeat (first | refine blk_drewN ?_ _ | refine blk_drew ?_ | refine blk_alloc ?_ _)); exact BK424.out⟩, ⟨by (with_reducible repeat (first | refine blk_drewN ?_ _ | refine blk_drew ?_ | refine blk_alloc ?_ _)); exact BK431.out⟩, ⟨by repeat (first | (with_reducible first | exact HB.out | apply below_alloc | apply pw_below_drewN | apply below_drew1 | refine below_set ?_ GE424.out | refine below_set ?_ GE431.out) | exact HB.out)⟩⟩
                            · rw [if_neg c45] at H
                              exact absurd H (by simp)
                          · rw [if_neg c44] at H
                            exact absurd H (by simp)
                    case rest =>
                      clear HC37
                      try clear c1
                      try clear c2
                      try clear p2
                      try clear c3
                      try clear c4
                      try clear p4
                      try clear q4
                      try clear hx4
                      try clear c5
                      try clear c7
                      try clear c12
                      try clear c12b0
                      try clear c14
                      try clear c15
                      try clear c15b0
                      try clear c16
                      try clear c16b0
                      try clear c20
                      try clear c22
                      try clear c22b0
                      try clear c23
                      try clear c23b0
                      try clear c24
                      try clear c24b0
                      try clear c24b1
                      try clear c25
                      try clear c27
                      try clear c29
                      try clear c29b0
                      try clear c29b1
                      try clear c30
                      try clear c32
                      try clear c34
                      try clear c34b0
                      try clear c34b1
                      try clear c35
                      try clear c38
                      try clear c42
                      try clear c42b0
                      try clear c43
                      try clear c43b0
                      try clear p43
                      try clear q43
                      try clear hx43
                      try clear c44
                      try clear c44b0
                      try clear c45
                      try clear c45b0
                      try clear c46
                      try clear hcz10_0
                      try clear hcz13_0
                      try clear hcz18_0
                      try clear hcz21_0
                      try clear hcz21_1
                      try clear hcz26_0
                      try clear hcz26_1
                      try clear hcz28_0
                      try clear hcz28_1
                      try clear hcz31_0
                      try clear hcz31_1
                      try clear hcz33_0
                      try clear hcz33_1
                      try clear hcz39_0
                      try clear hcz40_0
                      try clear hcz40_1
                      try clear hcz47_0
                      try clear hcz48_0
                      try clear hcz48_1
                      try clear hfz10_0
                      try clear hfz13_0
                      try clear hfz18_0
                      try clear hfz21_0
                      try clear hfz21_1
                      try clear hfz26_0
                      try clear hfz26_1
                      try clear hfz28_0
                      try clear hfz28_1
                      try clear hfz31_0
                      try clear hfz31_1
                      try clear hfz33_0
                      try clear hfz33_1
                      try clear hfz39_0
                      try clear hfz40_0
                      try clear hfz40_1
                      try clear hfz47_0
                      try clear hfz48_0
                      try clear hfz48_1
                      try clear hx430_0
                      try clear hx430_1
                      try clear hx433_0
                      try clear hx433_1
                      try clear p2
                      try clear p4
                      try clear p430
                      try clear p433
                      try clear q4
                      try clear q430
                      try clear q433
                      obtain ⟨kq, x78_36, rfl, HA, HJ36, BK424, BK431, HB⟩ := hcut
                      cases kq with
                      | zero => exact absurd HA.out (by simp [stratumlaw13_TableCounts.j2])
                      | succ kj36 =>
                        have H := HA.out
                        clear HA
                        simp only [stratumlaw13_TableCounts.j2] at H
                        by_cases c49 : x78_36 = true
                        · subst c49
                          have H1 : (some false) = some r := by rw [if_pos rfl] at H; exact H
                          clear H
                          have H := H1
                          clear H1
                          exact absurd ((Option.some.inj H).trans hr_.out) (by simp)
                        · replace c49 := Bool.eq_false_iff.mpr c49
                          subst c49
                          have H1 : (stratumlaw13_TableCounts.l0 kj36 t432 0 l0_0 ((rd_T48 l0_0 a1).f0) ((rd_T48 l0_0 a1).f1)) = some r := by rw [if_neg (show ¬ (false = true) by decide)] at H; exact H
                          clear H
                          have H := H1
                          clear H1
                          have H' := Aside0.mk H
                          clear H
                          go_wp2
                          repeat (go_quiet (fail); try go_wp2)
                          go_loopg [11] kj36 (fun kq v11 w' => ∃ (x11_4 : Int), v11 = .int .i64 x11_4 ∧ Aside0 (stratumlaw13_TableCounts.l0 kq t432 x11_4 l0_0 ((rd_T48 l0_0 a1).f0) ((rd_T48 l0_0 a1).f1) = some r) ∧ Aside0 (kq ≤ kj36) ∧ Aside0 (w'.heap[gb424]? = some (.cells #[(.slice (some ad430) l0_0.length c0_0)] 24 (0, 0))) ∧ Aside0 (w'.heap[gb431]? = some (.cells #[.string ((rd_T48 l0_0 a1).f0), (.slice A430_1 ((rd_T48 l0_0 a1).f1).length c430_1)] 48 (0, 0))) ∧ Aside0 (Below w.heap.size w w'))
                          case atStart => exact ⟨(0), (by first | rfl | (simp; done) | (simp [*]; done)), H', ⟨Nat.le_refl _⟩, ⟨by (with_reducible repeat (first | refine blk_drewN ?_ _ | refine blk_drew ?_ | refine blk_alloc ?_ _)); exact BK424.out⟩, ⟨by (with_reducible repeat (first | refine blk_drewN ?_ _ | refine blk_drew ?_ | refine blk_alloc ?_ _)); exact BK431.out⟩, ⟨by repeat (first | (with_reducible first | exact HB.out | apply below_alloc | apply pw_below_drewN | apply below_drew1 | refine below_set ?_ GE424.out | refine below_set ?_ GE431.out) | exact HB.out)⟩⟩
                          case round =>
                            clear H'
                            try clear c1
                            try clear c2
                            try clear p2
                            try clear c3
                            try clear c4
                            try clear p4
                            try clear q4
                            try clear hx4
                            try clear c5
                            try clear c7
                            try clear c12
                            try clear c12b0
                            try clear c14
                            try clear c15
                            try clear c15b0
                            try clear c16
                            try clear c16b0
                            try clear c20
                            try clear c22
                            try clear c22b0
                            try clear c23
                            try clear c23b0
                            try clear c24
                            try clear c24b0
                            try clear c24b1
                            try clear c25
                            try clear c27
                            try clear c29
                            try clear c29b0
                            try clear c29b1
                            try clear c30
                            try clear c32
                            try clear c34
                            try clear c34b0
                            try clear c34b1
                            try clear c35
                            try clear c38
                            try clear c42
                            try clear c42b0
                            try clear c43
                            try clear c43b0
                            try clear p43
                            try clear q43
                            try clear hx43
                            try clear c44
                            try clear c44b0
                            try clear c45
                            try clear c45b0
                            try clear c46
                            try clear c49
                            try clear hcz10_0
                            try clear hcz13_0
                            try clear hcz18_0
                            try clear hcz21_0
                            try clear hcz21_1
                            try clear hcz26_0
                            try clear hcz26_1
                            try clear hcz28_0
                            try clear hcz28_1
                            try clear hcz31_0
                            try clear hcz31_1
                            try clear hcz33_0
                            try clear hcz33_1
                            try clear hcz39_0
                            try clear hcz40_0
                            try clear hcz40_1
                            try clear hcz47_0
                            try clear hcz48_0
                            try clear hcz48_1
                            try clear hfz10_0
                            try clear hfz13_0
                            try clear hfz18_0
                            try clear hfz21_0
                            try clear hfz21_1
                            try clear hfz26_0
                            try clear hfz26_1
                            try clear hfz28_0
                            try clear hfz28_1
                            try clear hfz31_0
                            try clear hfz31_1
                            try clear hfz33_0
                            try clear hfz33_1
                            try clear hfz39_0
                            try clear hfz40_0
                            try clear hfz40_1
                            try clear hfz47_0
                            try clear hfz48_0
                            try clear hfz48_1
                            try clear hx430_0
                            try clear hx430_1
                            try clear hx433_0
                            try clear hx433_1
                            try clear p2
                            try clear p4
                            try clear p43
                            try clear p430
                            try clear p433
                            try clear q4
                            try clear q43
                            try clear q430
                            try clear q433
                            obtain ⟨x11_4, rfl, HA, HK4, BK424, BK431, HB⟩ := hrel
                            cases gk with
                            | zero => exact absurd HA.out (by simp [stratumlaw13_TableCounts.l0])
                            | succ k4 =>
                              have H := HA.out
                              clear HA
                              simp only [stratumlaw13_TableCounts.l0] at H
                              by_cases c50 : x11_4 < t432
                              · rw [if_pos c50] at H
                                have c50b0 : decide (x11_4 < t432) = true := decide_eq_true c50
                                clear c50
                                by_cases c51 : 0 ≤ x11_4
                                · rw [if_pos c51] at H
                                  have c51b0 : decide (0 ≤ x11_4) = true := decide_eq_true c51
                                  clear c51
                                  by_cases c52 : x11_4 < (l0_0.length : Int)
                                  · rw [if_pos c52] at H
                                    have c52b0 : decide (x11_4 < (l0_0.length : Int)) = true := decide_eq_true c52
                                    clear c52
                                    by_cases c53 : ((rd_T48 l0_0 x11_4).f0).toList = ((rd_T48 l0_0 a1).f0).toList
                                    · rw [if_pos c53] at H
                                      have c53b0 : (((rd_T48 l0_0 x11_4).f0).toList == ((rd_T48 l0_0 a1).f0).toList) = true := beq_iff_eq.mpr c53
                                      have c53b1 : (((rd_T48 l0_0 x11_4).f0).toList != ((rd_T48 l0_0 a1).f0).toList) = false := bne_eq_false_iff_eq.mpr c53
                                      clear c53
                                      exact absurd ((Option.some.inj H).trans hr_.out) (by simp)
                                    · rw [if_neg c53] at H
                                      have c53b0 : (((rd_T48 l0_0 x11_4).f0).toList == ((rd_T48 l0_0 a1).f0).toList) = false := beq_eq_false_iff_ne.mpr c53
                                      have c53b1 : (((rd_T48 l0_0 x11_4).f0).toList != ((rd_T48 l0_0 a1).f0).toList) = true := bne_iff_ne.mpr c53
                                      have H' := Aside0.mk H
                                      clear H
                                      have hnb54 := NB424_431.out
                                      have hnc54 := NB431_424.out
                                      have hcz55_0 : wr.cell? ⟨gb424, 0, none⟩ = some (.slice (some ad430) l0_0.length c0_0) := (blk_cell BK424.out 0).trans rfl
                                      have hfz55_0 := blk_frozen BK424.out 0
                                      have p434 : 0 ≤ (x11_4 : Int) := of_decide_eq_true (by first | (with_reducible assumption) | assumption)
                                      have q434 : x11_4 < (l0_0.length : Int) := of_decide_eq_true (by first | (with_reducible assumption) | assumption)
                                      obtain ⟨ad434, A434_1, c434_1, e434, hx434_0, hx434_1, hl434_1, hi434_1⟩ := at_T48 HR0_0.out x11_4 p434 q434
                                      obtain rfl : ad430 = ad434 := (by injection e434)
                                      replace hx434_0 := (HB.out.cell (World.block_lt_of_cell? w _ hx434_0)).trans hx434_0
                                      replace hx434_1 := (HB.out.cell (World.block_lt_of_cell? w _ hx434_1)).trans hx434_1
                                      have HR434_1 := Aside0.mk hi434_1
                                      have HC434_1 := Aside0.mk hl434_1
                                      clear hi434_1 hl434_1
                                      replace p434 := eq_true p434
                                      replace q434 := eq_true q434
                                      have hcz56_0 : wr.cell? ⟨gb431, 0, none⟩ = some (.string ((rd_T48 l0_0 a1).f0)) := (blk_cell BK431.out 0).trans rfl
                                      have hcz56_1 : wr.cell? ⟨gb431, 1, none⟩ = some (.slice A430_1 ((rd_T48 l0_0 a1).f1).length c430_1) := (blk_cell BK431.out 1).trans rfl
                                      have hfz56_0 := blk_frozen BK431.out 0
                                      have hfz56_1 := blk_frozen BK431.out 1
                                      go_wp2
                                      repeat (go_quiet (fail); try go_wp2)
                                      go_roundg k4
                                      case measure => have := HJ6.out; have := HJ16.out; have := HJ36.out; have := HK4.out; omega
                                      case rel => exact ⟨(wrap64 (x11_4 + 1)), (by first | rfl | (simp; done) | (simp [*]; done)), H', ⟨by have := HJ6.out; have := HJ16.out; have := HJ36.out; have := HK4.out; omega⟩, ⟨by (with_reducible repeat (first | refine blk_drewN ?_ _ | refine blk_drew ?_ | refine blk_alloc ?_ _)); exact BK424.out⟩, ⟨by (with_reducible repeat (first | refine blk_drewN ?_ _ | refine blk_drew ?_ | refine blk_alloc ?_ _)); exact BK431.out⟩, ⟨by repeat (first | (with_reducible first | exact HB.out | apply below_alloc | apply pw_below_drewN | apply below_drew1 | refine below_set ?_ GE424.out | refine below_set ?_ GE431.out) | exact HB.out)⟩⟩
                                  · rw [if_neg c52] at H
                                    exact absurd H (by simp)
                                · rw [if_neg c51] at H
                                  exact absurd H (by simp)
                              · rw [if_neg c50] at H
                                have c50b0 : decide (x11_4 < t432) = false := decide_eq_false c50
                                clear c50
                                obtain rfl := Option.some.inj H
                                go_wp2
                                repeat (go_quiet (fail); try go_wp2)
                                go_ret
                                exact ⟨by first | rfl | (simp [errW_none, errW_some] <;> rfl) | (simp [*, errW_none, errW_some] <;> rfl), by repeat (first | (with_reducible first | exact HB.out | apply below_alloc | apply pw_below_drewN | apply below_drew1 | refine below_set ?_ GE424.out | refine below_set ?_ GE431.out) | exact HB.out)⟩
            · rw [if_neg c16] at H
              exact absurd H (by simp)
          · rw [if_neg c15] at H
            exact absurd H (by simp)
  · replace c5 := Bool.eq_false_iff.mpr c5
    subst c5
    have H1 : (some false) = some r := by rw [if_neg (show ¬ (false = true) by decide)] at H; exact H
    clear H
    have H := H1
    clear H1
    exact absurd ((Option.some.inj H).trans hr_.out) (by simp)

-- NOT PRINTED: function 8 (stratumlaw13_TableGrows)

end Go.Proofs.Yteejpfemaedmkaa.X
