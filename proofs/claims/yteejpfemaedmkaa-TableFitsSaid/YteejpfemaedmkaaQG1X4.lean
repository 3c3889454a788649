-- Written by wip/printx.py: the kit's printer with functions proved by hand. Not trusted: Lean checks it.
import Derived.Test.YteejpfemaedmkaaQG1X0
namespace Go.Proofs.Yteejpfemaedmkaa.X
open Go.RowKit Go.Proofs.YteejpfemaedmkaaW.PrintWords Go.Proofs.YteejpfemaedmkaaW.PrintLast Go.Proofs.YteejpfemaedmkaaW.PrintMore
attribute [local go_sem] max2_int min2_int max_two min_two max_three min_three max_four min_four
set_option linter.unusedVariables false
set_option linter.unusedSimpArgs false
attribute [local go_sem] vx_gtr vx_leq vx_geq
set_option maxHeartbeats 1000000 in
set_option maxRecDepth 100000 in
theorem find_one (name f0 : ByteArray) (A : Option Addr) (n c : Nat) (b : Nat) (w : World) (hg : w.cell? ⟨b, 0, none⟩ = some (.string name)) :
  Calls Try.prog 50 #[.agg #[.string f0, .slice A n c], .pointer (some ⟨b, 0, none⟩)] w fun e w' => e = .returned (.bool (f0.toList == name.toList)) ∧ Below w.heap.size w w' := by
 have hc := fun o => pw_cell_below (below_alloc (Below.refl _ _) o) hg
 go_enter Try.func50, Try.ntmps50
 go_wp2
 go_ret
 exact ⟨rfl, below_alloc (Below.refl _ _) _⟩
def table_Find.f (l0_0 : List S48) (a1 : ByteArray) : Option Int := some (match l0_0.findIdx? (fun t => t.f0.toList == a1.toList) with | some i => (i : Int) | none => -1)
set_option maxHeartbeats 1000000 in
set_option maxRecDepth 100000 in
theorem table_Find.calls (A0_0 : Option Addr) (c0_0 : Nat) (l0_0 : List S48) (a1 : ByteArray) (r : Int) (w : World) (hr0_0 : Kd.C k48 w A0_0 l0_0.length l0_0) (hc0_0 : l0_0.length ≤ c0_0) (h : table_Find.f l0_0 a1 = some r) :
  Calls Try.prog 19 #[.agg #[.slice A0_0 l0_0.length c0_0], .string a1] w fun e w' => e = .returned (.int .i64 r) ∧ Below w.heap.size w w' := by
 have H := Aside0.mk (Option.some.inj h)
 clear h
 have HR := Aside0.mk hr0_0
 clear hr0_0
 have hmax : l0_0.length ≤ 9223372036854775807 := HR.out.2.1
 go_enter Try.func19, Try.ntmps19
 go_wp2
 go_loopw [8] (fun i wr => ∃ k : Nat, k ≤ l0_0.length ∧ i = .int .i64 k ∧ Aside0 (∀ j t, j < k → l0_0[j]? = some t → (t.f0.toList == a1.toList) = false) ∧ wr.cell? ⟨w.heap.size + 1, 0, none⟩ = some (.string a1) ∧ Aside0 (w.heap.size + 1 < wr.heap.size) ∧ Below w.heap.size w wr) (fun i wr => l0_0.length - (intOf i).toNat)
 case atStart => exact ⟨0, by omega, rfl, ⟨fun j t hj => by omega⟩, by simp, ⟨by simp⟩, below_alloc (below_alloc (Below.refl _ _) _) _⟩
 case round =>
  obtain ⟨k, hk, rfl, hn, hc, hz, hB⟩ := hrel
  by_cases hlt : k < l0_0.length
  ·obtain ⟨ad, A1, c1, e1, hx0, hx1, _, _⟩ := at_T48 HR.out (k : Int) (by omega) (by omega)
   cases e1
   replace hx0 := (hB.cell (World.block_lt_of_cell? w _ hx0)).trans hx0
   replace hx1 := (hB.cell (World.block_lt_of_cell? w _ hx1)).trans hx1
   rw [Int.toNat_natCast] at hx0 hx1
   have hel : l0_0[k]? = some (rd_T48 l0_0 (k : Int)) := by
    unfold rd_T48
    rw [Int.toNat_natCast, List.getD_eq_getElem?_getD, List.getElem?_eq_getElem hlt, Option.getD_some]
   have hp : 0 ≤ (k : Int) := by omega
   have hq : (k : Int) < (l0_0.length : Int) := by omega
   cases hb : ((rd_T48 l0_0 (k : Int)).f0.toList == a1.toList) with
   | true =>
    have hr : r = (k : Int) := by
     rw [← H.out]
     have : l0_0.findIdx? (fun t => t.f0.toList == a1.toList) = some k := by
      rw [List.findIdx?_eq_some_iff_getElem]
      refine ⟨hlt, ?_, fun j hj => ?_⟩
      ·rw [List.getElem?_eq_getElem hlt] at hel
       rw [Option.some.inj hel]
       exact hb
      ·rw [hn.out j _ hj (List.getElem?_eq_getElem (by omega))]
       simp
     rw [this]
    clear H hn hel
    subst hr
    go_wp2_with (go_at_call 50; refine (find_one a1 _ _ _ _ _ _ hc).mono ?_; rintro e w1 ⟨rfl, hb1⟩; have HB1 := Aside0.mk (below_then hB (by have := hz.out; omega) hb1); clear hb1)
    go_ret
    exact ⟨rfl, HB1.out⟩
   | false =>
    have hn2 : Aside0 (∀ j t, j < k + 1 → l0_0[j]? = some t → (t.f0.toList == a1.toList) = false) := ⟨fun j t hj ht => by
     rcases Nat.lt_or_ge j k with h2 | h2
     ·exact hn.out j t h2 ht
     ·obtain rfl : j = k := by omega
      rw [hel] at ht
      rw [← Option.some.inj ht]
      exact hb⟩
    clear hn hel
    go_wp2_with (go_at_call 50; refine (find_one a1 _ _ _ _ _ _ hc).mono ?_; rintro e w1 ⟨rfl, hb1⟩; have HB1 := Aside0.mk (below_then hB (by have := hz.out; omega) hb1); have HC1 := Aside0.mk (pw_cell_below hb1 hc); have HZ1 := Aside0.mk (Nat.lt_of_lt_of_le hz.out hb1.size); clear hb1)
    go_roundw
    case rel => exact ⟨k + 1, by omega, by go_num, hn2, HC1.out, HZ1, HB1.out⟩
    case measure => simp [intOf]; omega
  ·obtain rfl : k = l0_0.length := by omega
   have hr : r = -1 := by
    rw [← H.out]
    have : l0_0.findIdx? (fun t => t.f0.toList == a1.toList) = none := by
     rw [List.findIdx?_eq_none_iff]
     intro t ht
     obtain ⟨j, hj⟩ := List.getElem?_of_mem ht
     exact hn.out j t (List.getElem?_eq_some_iff.1 hj).1 hj
    rw [this]
   clear H hn
   subst hr
   go_wp2
   go_ret
   exact ⟨rfl, hB⟩
def api_Column_51.f (l0 : List S35) : Option (List S35) := if l0.length < 4398046511104 then some l0 else none
set_option maxHeartbeats 1000000 in
set_option maxRecDepth 100000 in
theorem api_Column_51.calls (A0 : Option Addr) (c0 : Nat) (l0 : List S35) (r : List S35) (w : World) (hr0 : Kd.C k35 w A0 l0.length l0) (hc0 : l0.length ≤ c0) (h : api_Column_51.f l0 = some r) :
  Calls Try.prog 51 #[.slice A0 l0.length c0] w fun e w' => ∃ v0_ : Value, e = .returned (v0_) ∧ Kd.R k35 35 w' w.heap.size (fun _ => True) v0_ r ∧ Below w.heap.size w w' := by
 unfold api_Column_51.f at h
 by_cases hl : l0.length < 4398046511104
 ·rw [if_pos hl] at h
  obtain rfl := Option.some.inj h
  clear h
  have HR0 := Aside0.mk hr0
  clear hr0
  have HB := Aside0.mk (Below.refl w.heap.size w)
  have LM := Aside0.mk hl
  have ke : ∀ (W : World) (a : Option Addr) (l c : Nat), (binOp .eql 29 (.slice a l c) (.slice none 0 0)).run Try.prog W = .ok (.bool a.isNone) W := fun W a l c => Go.run_eql_slice_nil W 29 35 a l c Try.underlying29
  rcases A0 with _ | ad
  ·have h0 : l0 = [] := by
    rcases l0 with _ | ⟨x, l⟩
    ·rfl
    ·obtain ⟨_, h, _⟩ := HR0.out.2.2 (by simp)
     cases h
   subst h0
   go_enter Try.func51, Try.ntmps51
   go_wp2
   go_ret
   exact ⟨_, rfl, Kd.R_nil _ _ _ _ _, Below.refl _ _⟩
  ·go_enter Try.func51, Try.ntmps51
   go_wp2_with (first | ((with_reducible refine gate_dst (N := 5) rfl ?_); refine Kd.R_lit k35 _ 35 ?hg (N := 5) ?hd (xs := ([] : List (S35))) (inner := []) (ok := fun _ => True) (okp := fun _ => True) ?hr ?hp (fun _ hk => hk) trivial (Below.refl _ _) (Nat.le_refl _) (by simp) ?_; (case hd => rfl); (case hg => rfl); (case hr => first | (go_simp; done) | (go_simp; rfl)); (case hp => exact (Reps.none _ _)); intro v1 w1 ho1 hb hg_ hnew_; clear hg_ hnew_; have HO1 := Aside0.mk ho1; have HB1 := Aside0.mk hb; clear hb ho1) | ((with_reducible refine gate_builtin (b := .append) (xs := #[.tmp 5, .tmp 6]) rfl ?_); at_builtin; refine Kd.R_append_rows k35 (w0 := w) w.heap.size rfl (.tmp 5) (.tmp 6) 29 35 (.agg #[.string ⟨#[]⟩, .int .i64 0, .int .i64 0]) 32 rfl Try.underlying29 info35 rfl (by decide) (by omega) v1 ([] : List S35) l0 _ _ _ (fun _ => True) (fun _ => False) rfl rfl ?aO ?aR (fun _ _ h => h) (fun _ h => h.elim) (fun _ _ => trivial) ?aB ?aS ?aL ?_; (case aO => exact HO1.out); (case aR => exact Kd.C_below HR0.out HB1.out); (case aB => exact HB1.out); (case aS => exact HB1.out.size); (case aL => have := LM.out; simp; omega); intro v2 w2 ho2 hb2 hg2 hat2; have HO2 := Aside0.mk ho2; have HB2 := Aside0.mk hb2; clear ho2 hb2 hg2 hat2))
   go_ret
   exact ⟨_, rfl, HO2.out, HB2.out⟩
 ·rw [if_neg hl] at h
  cases h
def table_Columns.j0 : Nat → Int → Int → Bool → List (S48) → Option ((List (S35)) × Int)
 | 0, _, _, _, _ => none
 | k + 1, x1, x2, x17, x102000 => if x17 = true then (some (([] : List (S35)), 131)) else (if 0 ≤ x1 then (if x1 < (x102000.length : Int) then (if x2 < 1 then (some (([] : List (S35)), 132)) else (if x2 > (((rd_T48 x102000 x1).f1).length : Int) then (some (([] : List (S35)), 132)) else (if 0 ≤ (wrap64 (x2 - 1)) then (if (wrap64 (x2 - 1)) < (((rd_T48 x102000 x1).f1).length : Int) then ((api_Column_51.f ((rd_T45 ((rd_T48 x102000 x1).f1) (wrap64 (x2 - 1))).f1)).bind fun t104 => (some (t104, 0))) else (none)) else (none)))) else (none)) else (none))
def table_Columns.f (k : Nat) (l0_0 : List (S48)) (a1 : Int) (a2 : Int) : Option ((List (S35)) × Int) := if a1 < 0 then (table_Columns.j0 k a1 a2 true l0_0) else (table_Columns.j0 k a1 a2 (decide ((l0_0.length : Int) ≤ a1)) l0_0)
theorem table_Columns.mono_l : ∀ k, (∀ y0 y1 y2 y3, LeO (table_Columns.j0 k y0 y1 y2 y3) (table_Columns.j0 (k + 1) y0 y1 y2 y3))
 | 0 => fun _ _ _ _ r h => by simp [table_Columns.j0] at h
 | k + 1 => by
  have ih0 := table_Columns.mono_l k
  ·intro y0 y1 y2 y3
   unfold table_Columns.j0
   repeat' first
   | (with_reducible exact ih0 _ _ _ _)
   | (with_reducible exact LeO.refl _)
   | (with_reducible exact LeO.none _)
   | (with_reducible refine LeO.ite ?_ ?_)
   | (with_reducible refine LeO.bind ?_ (fun _ => ?_))
   | exact ih0 _ _ _ _
   | exact LeO.none _
   | refine LeO.ite ?_ ?_
   | refine LeO.bind ?_ (fun _ => ?_)
theorem table_Columns.mono : ∀ a0 a1 a2 k, LeO (table_Columns.f k a0 a1 a2) (table_Columns.f (k + 1) a0 a1 a2) := by
 intro a0 a1 a2 k
 have ih0 := table_Columns.mono_l k
 unfold table_Columns.f
 repeat' first
   | (with_reducible exact ih0 _ _ _ _)
   | (with_reducible exact LeO.refl _)
   | (with_reducible exact LeO.none _)
   | (with_reducible refine LeO.ite ?_ ?_)
   | (with_reducible refine LeO.bind ?_ (fun _ => ?_))
   | exact ih0 _ _ _ _
   | exact LeO.none _
   | refine LeO.ite ?_ ?_
   | refine LeO.bind ?_ (fun _ => ?_)
set_option maxHeartbeats 8000000 in
set_option maxRecDepth 100000 in
theorem table_Columns.calls (k : Nat) (A0_0 : Option Addr) (c0_0 : Nat) (l0_0 : List (S48)) (a1 : Int) (a2 : Int) (r1 : List (S35)) (r2 : Int) (w : World) (hr0_0 : Kd.C k48 w A0_0 l0_0.length l0_0) (hc0_0 : l0_0.length ≤ c0_0) (h : table_Columns.f k l0_0 a1 a2 = some (r1, r2)) :
  Calls Try.prog 21 #[.agg #[.slice A0_0 l0_0.length c0_0], .int .i64 a1, .int .i64 a2] w fun e w' => ∃ v0_ : Value, e = .returned (.tuple #[v0_, .int .i64 r2]) ∧ Kd.R k35 35 w' w.heap.size (fun _ => True) v0_ r1 ∧ Below w.heap.size w w' := by
 have hu24 := Try.underlying24
 have HR0_0 := Aside0.mk hr0_0
 have HC0_0 := Aside0.mk hc0_0
 clear hr0_0 hc0_0
 have HB := Aside0.mk (Below.refl w.heap.size w)
 have H : (if a1 < 0 then (table_Columns.j0 k a1 a2 true l0_0) else (table_Columns.j0 k a1 a2 (decide ((l0_0.length : Int) ≤ a1)) l0_0)) = some (r1, r2) := h
 clear h
 have HC4 := Aside0.mk H
 clear H
 go_enter Try.func21, Try.ntmps21
 go_upto_region 1 with (first | ((with_reducible refine gate_dst (N := 3) rfl ?_); (try (refine gate_guard (by rfl) ?_; dsimp only)); refine box_event ?hg (N := 3) ?hd (cs := #[.slice A0_0 l0_0.length c0_0]) (t := 24) ?hr ?_; (case hd => rfl); (case hg => rfl); (case hr => first | (go_simp; done) | (go_simp; rfl)); intro gb101 hg w5 hbox hb; have n0_ := Aside0.mk (below_step (by repeat (first | (with_reducible first | exact HB.out | apply below_alloc | apply pw_below_drewN | apply below_drew1) | exact HB.out)) hb); have n1_ := Aside0.mk (hbox); have n2_ := Aside0.mk ((by rw [hg]; exact (below_size (by repeat (first | (with_reducible first | exact HB.out | apply below_alloc | apply pw_below_drewN | apply below_drew1) | exact HB.out))) : w.heap.size ≤ gb101)); have n3_ := Aside0.mk ((by rw [hg]; exact (below_size (by repeat (first | (with_reducible first | exact HB.out | apply below_alloc | apply pw_below_drewN | apply below_drew1) | exact HB.out))) : w.heap.size ≤ gb101)); clear HB; have HB := n0_; have BK101 := n1_; have GW101 := n2_; have GE101 := n3_; clear n0_ n1_ n2_ n3_; clear hb hbox hg))
 (try simp only [Act.put, List.setIfInBounds_toArray, List.set_cons_zero, List.set_cons_succ])
 go_cut [17] (fun v17 wc => ∃ (kq : Nat) (x17_3 : Bool), v17 = .bool x17_3 ∧ Aside0 (table_Columns.j0 kq a1 a2 x17_3 l0_0 = some (r1, r2)) ∧ Aside0 (kq ≤ k) ∧ Aside0 (wc.heap[gb101]? = some (.cells #[(.slice A0_0 l0_0.length c0_0)] 24 (0, 0))) ∧ Aside0 (Below w.heap.size w wc))
 case first =>
  have H := HC4.out
  clear HC4
  by_cases c6 : a1 < 0
  ·rw [if_pos c6] at H
   have c6b0 : decide (a1 < 0) = true := decide_eq_true c6
   clear c6
   (first | rw [c6b0] | (simp only [i64_w, i32_w]; rw [c6b0]) | skip)
   have H' := Aside0.mk H
   clear H
   go_wp2
   go_meet
   case rel => exact ⟨_, (true), (by first | rfl | (simp; done) | (simp [*]; done)), H', ⟨by first | omega | exact Nat.le_refl _⟩, ⟨by (with_reducible repeat (first | refine blk_drewN ?_ _ | refine blk_drew ?_ | refine blk_alloc ?_ _)); exact BK101.out⟩, ⟨by repeat (first | (with_reducible first | exact HB.out | apply below_alloc | apply pw_below_drewN | apply below_drew1 | refine below_set ?_ GE101.out) | exact HB.out)⟩⟩
  ·rw [if_neg c6] at H
   have c6b0 : decide (a1 < 0) = false := decide_eq_false c6
   clear c6
   (first | rw [c6b0] | (simp only [i64_w, i32_w]; rw [c6b0]) | skip)
   have H' := Aside0.mk H
   clear H
   have hcz7_0 : w5.cell? ⟨gb101, 0, none⟩ = some (.slice A0_0 l0_0.length c0_0) := (blk_cell BK101.out 0).trans rfl
   have hfz7_0 := blk_frozen BK101.out 0
   go_wp2
   go_meet
   case rel => exact ⟨_, (decide ((l0_0.length : Int) ≤ a1)), (by first | rfl | (simp; done) | (simp [*]; done)), H', ⟨by first | omega | exact Nat.le_refl _⟩, ⟨by (with_reducible repeat (first | refine blk_drewN ?_ _ | refine blk_drew ?_ | refine blk_alloc ?_ _)); exact BK101.out⟩, ⟨by repeat (first | (with_reducible first | exact HB.out | apply below_alloc | apply pw_below_drewN | apply below_drew1 | refine below_set ?_ GE101.out) | exact HB.out)⟩⟩
 case rest =>
  clear HC4
  try clear c2
  try clear p2
  try clear c6
  try clear c6b0
  try clear hcz7_0
  try clear hfz7_0
  obtain ⟨kq, x17_3, rfl, HA, HJ3, BK101, HB⟩ := hcut
  cases kq with
  | zero => exact absurd HA.out (by simp [table_Columns.j0])
  | succ kj3 =>
   have H := HA.out
   clear HA
   simp only [table_Columns.j0] at H
   by_cases c8 : x17_3 = true
   ·subst c8
    have H1 : (some (([] : List (S35)), 131)) = some (r1, r2) := by rw [if_pos rfl] at H; exact H
    clear H
    have H := H1
    clear H1
    simp only [Option.some.injEq, Prod.mk.injEq] at H
    obtain ⟨rfl, rfl⟩ := H
    go_wp2
    go_ret2
    exact ⟨_, by first | rfl | (simp [errW_none, errW_some] <;> rfl) | (simp [*, errW_none, errW_some] <;> rfl), by first | exact Kd.R_nil _ _ _ _ _ | exact Kd.N_nil _ _ _ _ _ | exact Kd.V_nil _ _ _ _ _ | exact Kd.Q_nil _ _ _ _ _ | exact Kd.S_nil _ _ _ _ _, by repeat (first | (with_reducible first | exact HB.out | apply below_alloc | apply pw_below_drewN | apply below_drew1 | refine below_set ?_ GE101.out) | exact HB.out)⟩
   ·replace c8 := Bool.eq_false_iff.mpr c8
    subst c8
    have H1 : (if 0 ≤ a1 then (if a1 < (l0_0.length : Int) then (if a2 < 1 then (some (([] : List (S35)), 132)) else (if a2 > (((rd_T48 l0_0 a1).f1).length : Int) then (some (([] : List (S35)), 132)) else (if 0 ≤ (wrap64 (a2 - 1)) then (if (wrap64 (a2 - 1)) < (((rd_T48 l0_0 a1).f1).length : Int) then ((api_Column_51.f ((rd_T45 ((rd_T48 l0_0 a1).f1) (wrap64 (a2 - 1))).f1)).bind fun t104 => (some (t104, 0))) else (none)) else (none)))) else (none)) else (none)) = some (r1, r2) := by rw [if_neg (show ¬ (false = true) by decide)] at H; exact H
    clear H
    have H := H1
    clear H1
    by_cases c9 : 0 ≤ a1
    ·rw [if_pos c9] at H
     have c9b0 : decide (0 ≤ a1) = true := decide_eq_true c9
     clear c9
     by_cases c10 : a1 < (l0_0.length : Int)
     ·rw [if_pos c10] at H
      have c10b0 : decide (a1 < (l0_0.length : Int)) = true := decide_eq_true c10
      clear c10
      by_cases c11 : a2 < 1
      ·rw [if_pos c11] at H
       have c11b0 : decide (a2 < 1) = true := decide_eq_true c11
       clear c11
       simp only [Option.some.injEq, Prod.mk.injEq] at H
       obtain ⟨rfl, rfl⟩ := H
       have hcz12_0 : wc.cell? ⟨gb101, 0, none⟩ = some (.slice A0_0 l0_0.length c0_0) := (blk_cell BK101.out 0).trans rfl
       have hfz12_0 := blk_frozen BK101.out 0
       have p102 : 0 ≤ (a1 : Int) := of_decide_eq_true (by first | (with_reducible assumption) | assumption)
       have q102 : a1 < (l0_0.length : Int) := of_decide_eq_true (by first | (with_reducible assumption) | assumption)
       obtain ⟨ad102, A102_1, c102_1, e102, hx102_0, hx102_1, hl102_1, hi102_1⟩ := at_T48 HR0_0.out a1 p102 q102
       cases e102
       replace hx102_0 := (HB.out.cell (World.block_lt_of_cell? w _ hx102_0)).trans hx102_0
       replace hx102_1 := (HB.out.cell (World.block_lt_of_cell? w _ hx102_1)).trans hx102_1
       have HR102_1 := Aside0.mk hi102_1
       have HC102_1 := Aside0.mk hl102_1
       clear hi102_1 hl102_1
       replace p102 := eq_true p102
       replace q102 := eq_true q102
       go_wp2
       go_ret2
       exact ⟨_, by first | rfl | (simp [errW_none, errW_some] <;> rfl) | (simp [*, errW_none, errW_some] <;> rfl), by first | exact Kd.R_nil _ _ _ _ _ | exact Kd.N_nil _ _ _ _ _ | exact Kd.V_nil _ _ _ _ _ | exact Kd.Q_nil _ _ _ _ _ | exact Kd.S_nil _ _ _ _ _, by repeat (first | (with_reducible first | exact HB.out | apply below_alloc | apply pw_below_drewN | apply below_drew1 | refine below_set ?_ GE101.out) | exact HB.out)⟩
      ·rw [if_neg c11] at H
       have c11b0 : decide (a2 < 1) = false := decide_eq_false c11
       clear c11
       by_cases c13 : a2 > (((rd_T48 l0_0 a1).f1).length : Int)
       ·rw [if_pos c13] at H
        have c13b0 : decide ((((rd_T48 l0_0 a1).f1).length : Int) < a2) = true := decide_eq_true c13
        clear c13
        simp only [Option.some.injEq, Prod.mk.injEq] at H
        obtain ⟨rfl, rfl⟩ := H
        have hcz14_0 : wc.cell? ⟨gb101, 0, none⟩ = some (.slice A0_0 l0_0.length c0_0) := (blk_cell BK101.out 0).trans rfl
        have hfz14_0 := blk_frozen BK101.out 0
        have p102 : 0 ≤ (a1 : Int) := of_decide_eq_true (by first | (with_reducible assumption) | assumption)
        have q102 : a1 < (l0_0.length : Int) := of_decide_eq_true (by first | (with_reducible assumption) | assumption)
        obtain ⟨ad102, A102_1, c102_1, e102, hx102_0, hx102_1, hl102_1, hi102_1⟩ := at_T48 HR0_0.out a1 p102 q102
        cases e102
        replace hx102_0 := (HB.out.cell (World.block_lt_of_cell? w _ hx102_0)).trans hx102_0
        replace hx102_1 := (HB.out.cell (World.block_lt_of_cell? w _ hx102_1)).trans hx102_1
        have HR102_1 := Aside0.mk hi102_1
        have HC102_1 := Aside0.mk hl102_1
        clear hi102_1 hl102_1
        replace p102 := eq_true p102
        replace q102 := eq_true q102
        go_wp2
        go_ret2
        exact ⟨_, by first | rfl | (simp [errW_none, errW_some] <;> rfl) | (simp [*, errW_none, errW_some] <;> rfl), by first | exact Kd.R_nil _ _ _ _ _ | exact Kd.N_nil _ _ _ _ _ | exact Kd.V_nil _ _ _ _ _ | exact Kd.Q_nil _ _ _ _ _ | exact Kd.S_nil _ _ _ _ _, by repeat (first | (with_reducible first | exact HB.out | apply below_alloc | apply pw_below_drewN | apply below_drew1 | refine below_set ?_ GE101.out) | exact HB.out)⟩
       ·rw [if_neg c13] at H
        have c13b0 : decide ((((rd_T48 l0_0 a1).f1).length : Int) < a2) = false := decide_eq_false c13
        clear c13
        obtain ⟨ji15, hji15⟩ : ∃ j_ : Int, (wrap64 (a2 - 1)) = j_ := ⟨_, rfl⟩
        replace H : (if 0 ≤ (ji15) then (if (ji15) < (((rd_T48 l0_0 a1).f1).length : Int) then ((api_Column_51.f ((rd_T45 ((rd_T48 l0_0 a1).f1) (ji15)).f1)).bind fun t104 => (some (t104, 0))) else (none)) else (none)) = some (r1, r2) := by first | (rw [hji15] at H; exact H) | (simp only [hji15] at H ⊢; exact H)
        have hji15w : (IntKind.i64.wrap (a2 - 1)) = ji15 := (i64_w _).trans hji15
        by_cases c16 : 0 ≤ (ji15)
        ·rw [if_pos c16] at H
         have c16b0 : decide (0 ≤ (ji15)) = true := decide_eq_true c16
         clear c16
         by_cases c17 : (ji15) < (((rd_T48 l0_0 a1).f1).length : Int)
         ·rw [if_pos c17] at H
          have c17b0 : decide ((ji15) < (((rd_T48 l0_0 a1).f1).length : Int)) = true := decide_eq_true c17
          clear c17
          replace H := Option.bind_eq_some_iff.mp H
          obtain ⟨t104, A180, H⟩ := H
          replace H : (some (t104, 0)) = some (r1, r2) := H
          have A18 := Aside0.mk A180
          clear A180
          simp only [Option.some.injEq, Prod.mk.injEq] at H
          obtain ⟨rfl, rfl⟩ := H
          have hcz19_0 : wc.cell? ⟨gb101, 0, none⟩ = some (.slice A0_0 l0_0.length c0_0) := (blk_cell BK101.out 0).trans rfl
          have hfz19_0 := blk_frozen BK101.out 0
          have p102 : 0 ≤ (a1 : Int) := of_decide_eq_true (by first | (with_reducible assumption) | assumption)
          have q102 : a1 < (l0_0.length : Int) := of_decide_eq_true (by first | (with_reducible assumption) | assumption)
          obtain ⟨ad102, A102_1, c102_1, e102, hx102_0, hx102_1, hl102_1, hi102_1⟩ := at_T48 HR0_0.out a1 p102 q102
          cases e102
          replace hx102_0 := (HB.out.cell (World.block_lt_of_cell? w _ hx102_0)).trans hx102_0
          replace hx102_1 := (HB.out.cell (World.block_lt_of_cell? w _ hx102_1)).trans hx102_1
          have HR102_1 := Aside0.mk hi102_1
          have HC102_1 := Aside0.mk hl102_1
          clear hi102_1 hl102_1
          replace p102 := eq_true p102
          replace q102 := eq_true q102
          have p103 : 0 ≤ ((ji15) : Int) := of_decide_eq_true (by first | (with_reducible assumption) | assumption)
          have q103 : (ji15) < (((rd_T48 l0_0 a1).f1).length : Int) := of_decide_eq_true (by first | (with_reducible assumption) | assumption)
          obtain ⟨ad103, A103_0, c103_0, A103_1, c103_1, e103, hx103_0, hx103_1, hl103_0, hi103_0, hl103_1, hi103_1⟩ := at_T45 HR102_1.out (ji15) p103 q103
          cases e103
          replace hx103_0 := (HB.out.cell (World.block_lt_of_cell? w _ hx103_0)).trans hx103_0
          replace hx103_1 := (HB.out.cell (World.block_lt_of_cell? w _ hx103_1)).trans hx103_1
          have HR103_0 := Aside0.mk hi103_0
          have HC103_0 := Aside0.mk hl103_0
          clear hi103_0 hl103_0
          have HR103_1 := Aside0.mk hi103_1
          have HC103_1 := Aside0.mk hl103_1
          clear hi103_1 hl103_1
          replace p103 := eq_true p103
          replace q103 := eq_true q103
          go_wp2_with (first | ((with_reducible refine gate_callee (f := 51) rfl ?_); refine goesL_ (some 38) rfl rfl Try.func51 (by kernel_rfl) rfl #[.slice A103_1 ((rd_T45 ((rd_T48 l0_0 a1).f1) (ji15)).f1).length c103_1] rfl (by (try simp only [List.map_toArray, List.map_cons, List.map_nil]); first | done | (simp only [hji15]; rfl) | rfl | (simp only [List.length_drop, List.length_take]; rfl)) ?_; (with_reducible refine (api_Column_51.calls _ _ ((rd_T45 ((rd_T48 l0_0 a1).f1) (ji15)).f1) t104 _ ?side1 ?side2 A18.out).mono ?_); (case side1 => repeat (first | exact (Kd.C_below HR103_1.out HB.out) | (with_reducible refine Kd.C_alloc ?_ _) | (with_reducible refine Kd.C_drewN ?_ _) | (with_reducible refine Kd.C_drew ?_))); (case side2 => exact HC103_1.out); rintro e w20 ⟨v105, rfl, ho0, hb⟩; refine ⟨_, rfl, ?_⟩; have n0_ := Aside0.mk (Kd.R_lower ho0 (below_size (by repeat (first | (with_reducible first | exact HB.out | apply below_alloc | apply pw_below_drewN | apply below_drew1 | refine below_set ?_ GE101.out) | exact HB.out)))); have n1_ := Aside0.mk (blk_below (g := gb101) (o := .cells #[.slice (some ad102) l0_0.length c0_0] 24 (0, 0)) (by (with_reducible repeat (first | refine blk_drewN ?_ _ | refine blk_drew ?_ | refine blk_alloc ?_ _)); exact BK101.out) hb); have n2_ := Aside0.mk (below_step (by repeat (first | (with_reducible first | exact HB.out | apply below_alloc | apply pw_below_drewN | apply below_drew1 | refine below_set ?_ GE101.out) | exact HB.out)) hb); clear BK101; clear HB; have HO106 := n0_; have BK101 := n1_; have HB := n2_; clear n0_ n1_ n2_; (try clear hb); (try clear hb2); (try clear hk); (try clear hi); (try clear ho0)))
          go_ret2
          exact ⟨_, by first | rfl | (simp [errW_none, errW_some] <;> rfl) | (simp only [← hji15]; first | rfl | (simp [errW_none, errW_some] <;> rfl)) | (simp [*, errW_none, errW_some] <;> rfl), by (with_reducible repeat (first | apply Kd.R_alloc | apply Kd.R_drewN | apply Kd.R_drew)); exact HO106.out, by repeat (first | (with_reducible first | exact HB.out | apply below_alloc | apply pw_below_drewN | apply below_drew1 | refine below_set ?_ GE101.out) | exact HB.out)⟩
         ·rw [if_neg c17] at H
          exact absurd H (by simp)
        ·rw [if_neg c16] at H
         exact absurd H (by simp)
     ·rw [if_neg c10] at H
      exact absurd H (by simp)
    ·rw [if_neg c9] at H
     exact absurd H (by simp)
def table_Column.l0 : Nat → ByteArray → List (S35) → Int → Int → Option (ByteArray × Int × Int × Bool)
 | 0, _, _, _, _ => none
 | k + 1, x1, x8, x9, x10 => if x10 < x9 then (if 0 ≤ x10 then (if x10 < (x8.length : Int) then (if ((rd_T35 x8 x10).f0).toList = x1.toList then (some ((rd_T35 x8 x10).f0, (rd_T35 x8 x10).f1, (rd_T35 x8 x10).f2, true)) else (table_Column.l0 k x1 x8 x9 (wrap64 (x10 + 1)))) else (none)) else (none)) else (some ((⟨#[]⟩ : ByteArray), 0, 0, false))
def table_Column.f (k : Nat) (l0 : List (S35)) (a1 : ByteArray) : Option (ByteArray × Int × Int × Bool) := table_Column.l0 k a1 l0 (l0.length : Int) 0
theorem table_Column.mono_l : ∀ k, (∀ y0 y1 y2 y3, LeO (table_Column.l0 k y0 y1 y2 y3) (table_Column.l0 (k + 1) y0 y1 y2 y3))
 | 0 => fun _ _ _ _ r h => by simp [table_Column.l0] at h
 | k + 1 => by
  have ih0 := table_Column.mono_l k
  ·intro y0 y1 y2 y3
   unfold table_Column.l0
   repeat' first
   | (with_reducible exact ih0 _ _ _ _)
   | (with_reducible exact LeO.refl _)
   | (with_reducible exact LeO.none _)
   | (with_reducible refine LeO.ite ?_ ?_)
   | (with_reducible refine LeO.bind ?_ (fun _ => ?_))
   | exact ih0 _ _ _ _
   | exact LeO.none _
   | refine LeO.ite ?_ ?_
   | refine LeO.bind ?_ (fun _ => ?_)
theorem table_Column.mono : ∀ a0 a1 k, LeO (table_Column.f k a0 a1) (table_Column.f (k + 1) a0 a1) := by
 intro a0 a1 k
 have ih0 := table_Column.mono_l k
 unfold table_Column.f
 repeat' first
   | (with_reducible exact ih0 _ _ _ _)
   | (with_reducible exact LeO.refl _)
   | (with_reducible exact LeO.none _)
   | (with_reducible refine LeO.ite ?_ ?_)
   | (with_reducible refine LeO.bind ?_ (fun _ => ?_))
   | exact ih0 _ _ _ _
   | exact LeO.none _
   | refine LeO.ite ?_ ?_
   | refine LeO.bind ?_ (fun _ => ?_)
set_option maxHeartbeats 8000000 in
set_option maxRecDepth 100000 in
theorem table_Column.calls (k : Nat) (A0 : Option Addr) (c0 : Nat) (l0 : List (S35)) (a1 : ByteArray) (r1 : ByteArray) (r2 : Int) (r3 : Int) (r4 : Bool) (w : World) (hr0 : Kd.C k35 w A0 l0.length l0) (hc0 : l0.length ≤ c0) (h : table_Column.f k l0 a1 = some (r1, r2, r3, r4)) :
  Calls Try.prog 24 #[.slice A0 l0.length c0, .string a1] w fun e w' => e = .returned (.tuple #[.agg #[.string r1, .int .i64 r2, .int .i64 r3], .bool r4]) ∧ Below w.heap.size w w' := by
 have hu35 := Try.underlying35
 have HR0 := Aside0.mk hr0
 have HC0 := Aside0.mk hc0
 clear hr0 hc0
 have HB := Aside0.mk (Below.refl w.heap.size w)
 have H : (table_Column.l0 k a1 l0 (l0.length : Int) 0) = some (r1, r2, r3, r4) := h
 clear h
 have H' := Aside0.mk H
 clear H
 go_enter Try.func24, Try.ntmps24
 go_wp2_with (first | ((with_reducible refine gate_dst (N := 4) rfl ?_); refine box_event ?hg (N := 4) ?hd (cs := #[.string (⟨#[]⟩ : ByteArray), .int .i64 0, .int .i64 0]) (t := 35) ?hr ?_; (case hd => rfl); (case hg => rfl); (case hr => first | (go_simp; done) | (go_simp; rfl)); intro gb107 hg w3 hbox hb; have n0_ := Aside0.mk (below_step (by repeat (first | (with_reducible first | exact HB.out | apply below_alloc | apply pw_below_drewN | apply below_drew1) | exact HB.out)) hb); have n1_ := Aside0.mk (hbox); have n2_ := Aside0.mk ((by rw [hg]; exact (below_size (by repeat (first | (with_reducible first | exact HB.out | apply below_alloc | apply pw_below_drewN | apply below_drew1) | exact HB.out))) : w.heap.size ≤ gb107)); have n3_ := Aside0.mk ((by rw [hg]; exact (below_size (by repeat (first | (with_reducible first | exact HB.out | apply below_alloc | apply pw_below_drewN | apply below_drew1) | exact HB.out))) : w.heap.size ≤ gb107)); clear HB; have HB := n0_; have BK107 := n1_; have GW107 := n2_; have GE107 := n3_; clear n0_ n1_ n2_ n3_; clear hb hbox hg))
 go_loopg [10] k (fun kq v10 w' => ∃ (x10_1 : Int) (x108000_1 : ByteArray) (x108001_1 : Int) (x108002_1 : Int), v10 = .int .i64 x10_1 ∧ Aside0 (table_Column.l0 kq a1 l0 (l0.length : Int) x10_1 = some (r1, r2, r3, r4)) ∧ Aside0 (kq ≤ k) ∧ Aside0 (w'.heap[gb107]? = some (.cells #[.string x108000_1, .int .i64 x108001_1, .int .i64 x108002_1] 35 (0, 0))) ∧ Aside0 (Below w.heap.size w w'))
 case atStart => exact ⟨(0), ((⟨#[]⟩ : ByteArray)), (0), (0), (by first | rfl | (simp; done) | (simp [*]; done)), H', ⟨Nat.le_refl _⟩, ⟨by (with_reducible repeat (first | refine blk_drewN ?_ _ | refine blk_drew ?_ | refine blk_alloc ?_ _)); exact BK107.out⟩, ⟨by repeat (first | (with_reducible first | exact HB.out | apply below_alloc | apply pw_below_drewN | apply below_drew1 | refine below_set ?_ GE107.out) | exact HB.out)⟩⟩
 case round =>
  clear H'
  try clear c2
  try clear p2
  obtain ⟨x10_1, x108000_1, x108001_1, x108002_1, rfl, HA, HK1, BK107, HB⟩ := hrel
  cases gk with
  | zero => exact absurd HA.out (by simp [table_Column.l0])
  | succ k1 =>
   have H := HA.out
   clear HA
   simp only [table_Column.l0] at H
   by_cases c4 : x10_1 < (l0.length : Int)
   ·rw [if_pos c4] at H
    have c4b0 : decide (x10_1 < (l0.length : Int)) = true := decide_eq_true c4
    clear c4
    by_cases c5 : 0 ≤ x10_1
    ·rw [if_pos c5] at H
     have c5b0 : decide (0 ≤ x10_1) = true := decide_eq_true c5
     clear c5
     by_cases c6 : x10_1 < (l0.length : Int)
     ·rw [if_pos c6] at H
      have c6b0 : decide (x10_1 < (l0.length : Int)) = true := decide_eq_true c6
      clear c6
      by_cases c7 : ((rd_T35 l0 x10_1).f0).toList = a1.toList
      ·rw [if_pos c7] at H
       have c7b0 : (((rd_T35 l0 x10_1).f0).toList == a1.toList) = true := beq_iff_eq.mpr c7
       have c7b1 : (((rd_T35 l0 x10_1).f0).toList != a1.toList) = false := bne_eq_false_iff_eq.mpr c7
       clear c7
       simp only [Option.some.injEq, Prod.mk.injEq] at H
       obtain ⟨rfl, rfl, rfl, rfl⟩ := H
       have p108 : 0 ≤ (x10_1 : Int) := of_decide_eq_true (by first | (with_reducible assumption) | assumption)
       have q108 : x10_1 < (l0.length : Int) := of_decide_eq_true (by first | (with_reducible assumption) | assumption)
       obtain ⟨ad108, e108, hx108_0, hx108_1, hx108_2⟩ := at_T35 HR0.out x10_1 p108 q108
       cases e108
       replace hx108_0 := (HB.out.cell (World.block_lt_of_cell? w _ hx108_0)).trans hx108_0
       replace hx108_1 := (HB.out.cell (World.block_lt_of_cell? w _ hx108_1)).trans hx108_1
       replace hx108_2 := (HB.out.cell (World.block_lt_of_cell? w _ hx108_2)).trans hx108_2
       replace p108 := eq_true p108
       replace q108 := eq_true q108
       go_wp2_with (first | ((with_reducible refine gate_dst (N := 7) rfl ?_); refine box_event ?hg (N := 7) ?hd (cs := #[.string (⟨#[]⟩ : ByteArray), .int .i64 0, .int .i64 0]) (t := 35) ?hr ?_; (case hd => rfl); (case hg => rfl); (case hr => first | (go_simp; done) | (go_simp; rfl)); intro gb109 hg w8 hbox hb; have n0_ := Aside0.mk (blk_below (g := gb107) (o := .cells #[.string x108000_1, .int .i64 x108001_1, .int .i64 x108002_1] 35 (0, 0)) (by (with_reducible repeat (first | refine blk_drewN ?_ _ | refine blk_drew ?_ | refine blk_alloc ?_ _)); exact BK107.out) hb); have n1_ := Aside0.mk (below_step (by repeat (first | (with_reducible first | exact HB.out | apply below_alloc | apply pw_below_drewN | apply below_drew1 | refine below_set ?_ GE107.out) | exact HB.out)) hb); have n2_ := Aside0.mk (hbox); have n3_ := Aside0.mk ((by rw [hg]; exact (below_size (by repeat (first | (with_reducible first | exact HB.out | apply below_alloc | apply pw_below_drewN | apply below_drew1 | refine below_set ?_ GE107.out) | exact HB.out))) : w.heap.size ≤ gb109)); have n4_ := Aside0.mk ((by rw [hg]; exact (below_size (by repeat (first | (with_reducible first | exact HB.out | apply below_alloc | apply pw_below_drewN | apply below_drew1 | refine below_set ?_ GE107.out) | exact HB.out))) : w.heap.size ≤ gb109)); have n5_ := Aside0.mk ((by rw [hg]; exact Nat.ne_of_lt (blk_lt (g := gb107) (o := .cells #[.string x108000_1, .int .i64 x108001_1, .int .i64 x108002_1] 35 (0, 0)) (by (with_reducible repeat (first | refine blk_drewN ?_ _ | refine blk_drew ?_ | refine blk_alloc ?_ _)); exact BK107.out)) : gb107 ≠ gb109)); have n6_ := Aside0.mk ((by rw [hg]; exact Nat.ne_of_gt (blk_lt (g := gb107) (o := .cells #[.string x108000_1, .int .i64 x108001_1, .int .i64 x108002_1] 35 (0, 0)) (by (with_reducible repeat (first | refine blk_drewN ?_ _ | refine blk_drew ?_ | refine blk_alloc ?_ _)); exact BK107.out)) : gb109 ≠ gb107)); clear BK107; clear HB; have BK107 := n0_; have HB := n1_; have BK109 := n2_; have GW109 := n3_; have GE109 := n4_; have NB107_109 := n5_; have NB109_107 := n6_; clear n0_ n1_ n2_ n3_ n4_ n5_ n6_; clear hb hbox hg; have hnb9 := NB109_107.out; have hnc9 := NB107_109.out; have hcz10_0 : w8.cell? ⟨gb109, 0, none⟩ = some (.string (⟨#[]⟩ : ByteArray)) := (blk_cell BK109.out 0).trans rfl; have hcz10_1 : w8.cell? ⟨gb109, 1, none⟩ = some (.int .i64 0) := (blk_cell BK109.out 1).trans rfl; have hcz10_2 : w8.cell? ⟨gb109, 2, none⟩ = some (.int .i64 0) := (blk_cell BK109.out 2).trans rfl; have hfz10_0 := blk_frozen BK109.out 0; have hfz10_1 := blk_frozen BK109.out 1; have hfz10_2 := blk_frozen BK109.out 2; have hcz11_0 : w8.cell? ⟨gb107, 0, none⟩ = some (.string x108000_1) := (blk_cell BK107.out 0).trans rfl; have hcz11_1 : w8.cell? ⟨gb107, 1, none⟩ = some (.int .i64 x108001_1) := (blk_cell BK107.out 1).trans rfl; have hcz11_2 : w8.cell? ⟨gb107, 2, none⟩ = some (.int .i64 x108002_1) := (blk_cell BK107.out 2).trans rfl; have hfz11_0 := blk_frozen BK107.out 0; have hfz11_1 := blk_frozen BK107.out 1; have hfz11_2 := blk_frozen BK107.out 2))
       refine bodyPost_ret (results_ct rfl _ _ gb107 35 #[.string ((rd_T35 l0 x10_1).f0), .int .i64 ((rd_T35 l0 x10_1).f1), .int .i64 ((rd_T35 l0 x10_1).f2)] (0, 0) _ rfl (by (with_reducible repeat (first | refine blk_drewN ?_ _ | refine blk_drew ?_ | refine blk_alloc ?_ _)); refine blk_put (cs := #[.string ((rd_T35 l0 x10_1).f0), .int .i64 ((rd_T35 l0 x10_1).f1), .int .i64 x108002_1]) ?_ 2 _ rfl; (with_reducible repeat (first | refine blk_drewN ?_ _ | refine blk_drew ?_ | refine blk_alloc ?_ _)); refine blk_put (cs := #[.string ((rd_T35 l0 x10_1).f0), .int .i64 x108001_1, .int .i64 x108002_1]) ?_ 1 _ rfl; (with_reducible repeat (first | refine blk_drewN ?_ _ | refine blk_drew ?_ | refine blk_alloc ?_ _)); refine blk_put (cs := #[.string x108000_1, .int .i64 x108001_1, .int .i64 x108002_1]) ?_ 0 _ rfl; (with_reducible repeat (first | refine blk_drewN ?_ _ | refine blk_drew ?_ | refine blk_alloc ?_ _)); refine blk_far ?_ NB107_109.out _; (with_reducible repeat (first | refine blk_drewN ?_ _ | refine blk_drew ?_ | refine blk_alloc ?_ _)); refine blk_far ?_ NB107_109.out _; (with_reducible repeat (first | refine blk_drewN ?_ _ | refine blk_drew ?_ | refine blk_alloc ?_ _)); refine blk_far ?_ NB107_109.out _; (with_reducible repeat (first | refine blk_drewN ?_ _ | refine blk_drew ?_ | refine blk_alloc ?_ _)); exact BK107.out) Try.underlying35 rfl (by kernel_rfl)) rfl ?_
       exact ⟨by first | rfl | (simp [errW_none, errW_some] <;> rfl) | (simp [*, errW_none, errW_some] <;> rfl), by repeat (first | (with_reducible first | exact HB.out | apply below_alloc | apply pw_below_drewN | apply below_drew1 | refine below_set ?_ GE107.out | refine below_set ?_ GE109.out) | exact HB.out)⟩
      ·rw [if_neg c7] at H
       have c7b0 : (((rd_T35 l0 x10_1).f0).toList == a1.toList) = false := beq_eq_false_iff_ne.mpr c7
       have c7b1 : (((rd_T35 l0 x10_1).f0).toList != a1.toList) = true := bne_iff_ne.mpr c7
       have H' := Aside0.mk H
       clear H
       have p108 : 0 ≤ (x10_1 : Int) := of_decide_eq_true (by first | (with_reducible assumption) | assumption)
       have q108 : x10_1 < (l0.length : Int) := of_decide_eq_true (by first | (with_reducible assumption) | assumption)
       obtain ⟨ad108, e108, hx108_0, hx108_1, hx108_2⟩ := at_T35 HR0.out x10_1 p108 q108
       cases e108
       replace hx108_0 := (HB.out.cell (World.block_lt_of_cell? w _ hx108_0)).trans hx108_0
       replace hx108_1 := (HB.out.cell (World.block_lt_of_cell? w _ hx108_1)).trans hx108_1
       replace hx108_2 := (HB.out.cell (World.block_lt_of_cell? w _ hx108_2)).trans hx108_2
       replace p108 := eq_true p108
       replace q108 := eq_true q108
       go_wp2_with (first | ((with_reducible refine gate_dst (N := 7) rfl ?_); refine box_event ?hg (N := 7) ?hd (cs := #[.string (⟨#[]⟩ : ByteArray), .int .i64 0, .int .i64 0]) (t := 35) ?hr ?_; (case hd => rfl); (case hg => rfl); (case hr => first | (go_simp; done) | (go_simp; rfl)); intro gb109 hg w12 hbox hb; have n0_ := Aside0.mk (blk_below (g := gb107) (o := .cells #[.string x108000_1, .int .i64 x108001_1, .int .i64 x108002_1] 35 (0, 0)) (by (with_reducible repeat (first | refine blk_drewN ?_ _ | refine blk_drew ?_ | refine blk_alloc ?_ _)); exact BK107.out) hb); have n1_ := Aside0.mk (below_step (by repeat (first | (with_reducible first | exact HB.out | apply below_alloc | apply pw_below_drewN | apply below_drew1 | refine below_set ?_ GE107.out) | exact HB.out)) hb); have n2_ := Aside0.mk (hbox); have n3_ := Aside0.mk ((by rw [hg]; exact (below_size (by repeat (first | (with_reducible first | exact HB.out | apply below_alloc | apply pw_below_drewN | apply below_drew1 | refine below_set ?_ GE107.out) | exact HB.out))) : w.heap.size ≤ gb109)); have n4_ := Aside0.mk ((by rw [hg]; exact (below_size (by repeat (first | (with_reducible first | exact HB.out | apply below_alloc | apply pw_below_drewN | apply below_drew1 | refine below_set ?_ GE107.out) | exact HB.out))) : w.heap.size ≤ gb109)); have n5_ := Aside0.mk ((by rw [hg]; exact Nat.ne_of_lt (blk_lt (g := gb107) (o := .cells #[.string x108000_1, .int .i64 x108001_1, .int .i64 x108002_1] 35 (0, 0)) (by (with_reducible repeat (first | refine blk_drewN ?_ _ | refine blk_drew ?_ | refine blk_alloc ?_ _)); exact BK107.out)) : gb107 ≠ gb109)); have n6_ := Aside0.mk ((by rw [hg]; exact Nat.ne_of_gt (blk_lt (g := gb107) (o := .cells #[.string x108000_1, .int .i64 x108001_1, .int .i64 x108002_1] 35 (0, 0)) (by (with_reducible repeat (first | refine blk_drewN ?_ _ | refine blk_drew ?_ | refine blk_alloc ?_ _)); exact BK107.out)) : gb109 ≠ gb107)); clear BK107; clear HB; have BK107 := n0_; have HB := n1_; have BK109 := n2_; have GW109 := n3_; have GE109 := n4_; have NB107_109 := n5_; have NB109_107 := n6_; clear n0_ n1_ n2_ n3_ n4_ n5_ n6_; clear hb hbox hg; have hnb13 := NB109_107.out; have hnc13 := NB107_109.out; have hcz14_0 : w12.cell? ⟨gb109, 0, none⟩ = some (.string (⟨#[]⟩ : ByteArray)) := (blk_cell BK109.out 0).trans rfl; have hcz14_1 : w12.cell? ⟨gb109, 1, none⟩ = some (.int .i64 0) := (blk_cell BK109.out 1).trans rfl; have hcz14_2 : w12.cell? ⟨gb109, 2, none⟩ = some (.int .i64 0) := (blk_cell BK109.out 2).trans rfl; have hfz14_0 := blk_frozen BK109.out 0; have hfz14_1 := blk_frozen BK109.out 1; have hfz14_2 := blk_frozen BK109.out 2))
       go_roundg k1
       case measure => have := HK1.out; omega
       case rel => exact ⟨(wrap64 (x10_1 + 1)), (x108000_1), (x108001_1), (x108002_1), (by first | rfl | (simp; done) | (simp [*]; done)), H', ⟨by have := HK1.out; omega⟩, ⟨by (with_reducible repeat (first | refine blk_drewN ?_ _ | refine blk_drew ?_ | refine blk_alloc ?_ _)); refine blk_far ?_ NB107_109.out _; (with_reducible repeat (first | refine blk_drewN ?_ _ | refine blk_drew ?_ | refine blk_alloc ?_ _)); refine blk_far ?_ NB107_109.out _; (with_reducible repeat (first | refine blk_drewN ?_ _ | refine blk_drew ?_ | refine blk_alloc ?_ _)); refine blk_far ?_ NB107_109.out _; (with_reducible repeat (first | refine blk_drewN ?_ _ | refine blk_drew ?_ | refine blk_alloc ?_ _)); exact BK107.out⟩, ⟨by repeat (first | (with_reducible first | exact HB.out | apply below_alloc | apply pw_below_drewN | apply below_drew1 | refine below_set ?_ GE107.out | refine below_set ?_ GE109.out) | exact HB.out)⟩⟩
     ·rw [if_neg c6] at H
      exact absurd H (by simp)
    ·rw [if_neg c5] at H
     exact absurd H (by simp)
   ·rw [if_neg c4] at H
    have c4b0 : decide (x10_1 < (l0.length : Int)) = false := decide_eq_false c4
    clear c4
    simp only [Option.some.injEq, Prod.mk.injEq] at H
    obtain ⟨rfl, rfl, rfl, rfl⟩ := H
    have hcz15_0 : wr.cell? ⟨gb107, 0, none⟩ = some (.string x108000_1) := (blk_cell BK107.out 0).trans rfl
    have hcz15_1 : wr.cell? ⟨gb107, 1, none⟩ = some (.int .i64 x108001_1) := (blk_cell BK107.out 1).trans rfl
    have hcz15_2 : wr.cell? ⟨gb107, 2, none⟩ = some (.int .i64 x108002_1) := (blk_cell BK107.out 2).trans rfl
    have hfz15_0 := blk_frozen BK107.out 0
    have hfz15_1 := blk_frozen BK107.out 1
    have hfz15_2 := blk_frozen BK107.out 2
    go_wp2
    refine bodyPost_ret (results_ct rfl _ _ gb107 35 #[.string (⟨#[]⟩ : ByteArray), .int .i64 0, .int .i64 0] (0, 0) _ rfl (by (with_reducible repeat (first | refine blk_drewN ?_ _ | refine blk_drew ?_ | refine blk_alloc ?_ _)); refine blk_put (cs := #[.string (⟨#[]⟩ : ByteArray), .int .i64 0, .int .i64 x108002_1]) ?_ 2 _ rfl; (with_reducible repeat (first | refine blk_drewN ?_ _ | refine blk_drew ?_ | refine blk_alloc ?_ _)); refine blk_put (cs := #[.string (⟨#[]⟩ : ByteArray), .int .i64 x108001_1, .int .i64 x108002_1]) ?_ 1 _ rfl; (with_reducible repeat (first | refine blk_drewN ?_ _ | refine blk_drew ?_ | refine blk_alloc ?_ _)); refine blk_put (cs := #[.string x108000_1, .int .i64 x108001_1, .int .i64 x108002_1]) ?_ 0 _ rfl; (with_reducible repeat (first | refine blk_drewN ?_ _ | refine blk_drew ?_ | refine blk_alloc ?_ _)); exact BK107.out) Try.underlying35 rfl (by kernel_rfl)) rfl ?_
    exact ⟨by first | rfl | (simp [errW_none, errW_some] <;> rfl) | (simp [*, errW_none, errW_some] <;> rfl), by repeat (first | (with_reducible first | exact HB.out | apply below_alloc | apply pw_below_drewN | apply below_drew1 | refine below_set ?_ GE107.out) | exact HB.out)⟩
def utf_character.f (a0 : Int) : Option (Bool) := if a0 ≥ 0 then (if a0 ≤ 1114111 then (if a0 < 55296 then (some true) else (some (decide (57343 < a0)))) else (some false)) else (some false)
set_option maxHeartbeats 8000000 in
set_option maxRecDepth 100000 in
theorem utf_character.calls (a0 : Int) (r : Bool) (w : World) (h : utf_character.f a0 = some r) :
  Calls Try.prog 83 #[.int .i64 a0] w fun e w' => e = .returned (.bool r) ∧ Drawn0 w w' := by
 have H : (if a0 ≥ 0 then (if a0 ≤ 1114111 then (if a0 < 55296 then (some true) else (some (decide (57343 < a0)))) else (some false)) else (some false)) = some r := h
 clear h
 by_cases c2 : a0 ≥ 0
 ·rw [if_pos c2] at H
  have c2b0 : decide (0 ≤ a0) = true := decide_eq_true c2
  clear c2
  by_cases c3 : a0 ≤ 1114111
  ·rw [if_pos c3] at H
   have c3b0 : decide (a0 ≤ 1114111) = true := decide_eq_true c3
   clear c3
   by_cases c4 : a0 < 55296
   ·rw [if_pos c4] at H
    have c4b0 : decide (a0 < 55296) = true := decide_eq_true c4
    clear c4
    obtain rfl := Option.some.inj H
    go_enter Try.func83, Try.ntmps83
    go_wp2
    go_ret
    exact ⟨by first | rfl | (simp; done) | (simp [*]; done), by repeat (first | exact Drawn0.refl _ | apply Drawn0.step)⟩
   ·rw [if_neg c4] at H
    have c4b0 : decide (a0 < 55296) = false := decide_eq_false c4
    clear c4
    obtain rfl := Option.some.inj H
    go_enter Try.func83, Try.ntmps83
    go_wp2
    go_ret
    exact ⟨by first | rfl | (simp; done) | (simp [*]; done), by repeat (first | exact Drawn0.refl _ | apply Drawn0.step)⟩
  ·rw [if_neg c3] at H
   have c3b0 : decide (a0 ≤ 1114111) = false := decide_eq_false c3
   clear c3
   obtain rfl := Option.some.inj H
   go_enter Try.func83, Try.ntmps83
   go_wp2
   go_ret
   exact ⟨by first | rfl | (simp; done) | (simp [*]; done), by repeat (first | exact Drawn0.refl _ | apply Drawn0.step)⟩
 ·rw [if_neg c2] at H
  have c2b0 : decide (0 ≤ a0) = false := decide_eq_false c2
  clear c2
  obtain rfl := Option.some.inj H
  go_enter Try.func83, Try.ntmps83
  go_wp2
  go_ret
  exact ⟨by first | rfl | (simp; done) | (simp [*]; done), by repeat (first | exact Drawn0.refl _ | apply Drawn0.step)⟩
end Go.Proofs.Yteejpfemaedmkaa.X
