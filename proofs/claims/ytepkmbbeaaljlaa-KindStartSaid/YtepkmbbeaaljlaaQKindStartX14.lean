-- Written by wip/printx.py: the kit's printer with functions proved by hand. Not trusted: Lean checks it.
import Derived.Test.YtepkmbbeaaljlaaQKindStartX0
import Derived.Test.YtepkmbbeaaljlaaQKindStartX5
import Derived.Test.YtepkmbbeaaljlaaQKindStartX11
import Derived.Test.YtepkmbbeaaljlaaQKindStartX12
import Derived.Test.YtepkmbbeaaljlaaQKindStartX13
namespace Go.Proofs.Ytepkmbbeaaljlaa.X
open Go.RowKit Go.Proofs.YtepkmbbeaaljlaaW.PrintWords Go.Proofs.YtepkmbbeaaljlaaW.PrintLast Go.Proofs.YtepkmbbeaaljlaaW.PrintMore
attribute [local go_sem] max2_int min2_int max_two min_two max_three min_three max_four min_four
set_option linter.unusedVariables false
set_option linter.unusedSimpArgs false
attribute [local go_sem] vx_gtr vx_leq vx_geq
mutual
def stratumlaw04_KindStart.j0 : Nat → List (S41) → List (S41) → List (S41) → Bool → Int → Int → ByteArray → Int → Option (Bool)
 | 0, _, _, _, _, _, _, _, _ => none
 | k + 1, x3, x4, x5, x26, x242000, x242001, x242002, x242003 => if x26 = true then (some false) else (stratumlaw04_KindStart.l0 k x3 x4 x5 0 x242000 x242001 x242002 x242003)
def stratumlaw04_KindStart.l0 : Nat → List (S41) → List (S41) → List (S41) → Int → Int → Int → ByteArray → Int → Option (Bool)
 | 0, _, _, _, _, _, _, _, _ => none
 | k + 1, x3, x4, x5, x6, x242000, x242001, x242002, x242003 => if x6 < (x4.length : Int) then (if 0 ≤ x6 then (stratumlaw04_KindStart.l0 k x3 (x4.set (x6 : Int).toNat (⟨x242000, x242001, x242002, x242003⟩ : S41)) x5 (wrap64 (x6 + 1)) x242000 x242001 x242002 x242003) else (none)) else (stratumlaw04_KindStart.l1 k x3 x5 x4 0 x242000 x242001 x242002 x242003)
def stratumlaw04_KindStart.l1 : Nat → List (S41) → List (S41) → List (S41) → Int → Int → Int → ByteArray → Int → Option (Bool)
 | 0, _, _, _, _, _, _, _, _ => none
 | k + 1, x3, x5, x7, x8, x242000, x242001, x242002, x242003 => if x8 < 9 then (if x7.length < 3518437208883 then (stratumlaw04_KindStart.l1 k x3 x5 (x7 ++ [(⟨x242000, x242001, x242002, x242003⟩ : S41)]) (wrap64 (x8 + 1)) x242000 x242001 x242002 x242003) else (none)) else ((stratumlaw04_same.f k x5 x3).bind fun t261 => (if t261 = true then ((kind_Entries.f).bind fun t262 => ((stratumlaw04_same.f k t262 x3).bind fun t265 => (if t265 = true then (stratumlaw04_KindStart.j3 k x3 ((x7.length : Int) != 14)) else (stratumlaw04_KindStart.j3 k x3 true)))) else (stratumlaw04_KindStart.j3 k x3 true)))
def stratumlaw04_KindStart.j3 : Nat → List (S41) → Bool → Option (Bool)
 | 0, _, _ => none
 | k + 1, x3, x60 => if x60 = true then (some false) else (stratumlaw04_KindStart.l2 k x3 0 0)
def stratumlaw04_KindStart.l2 : Nat → List (S41) → Int → Int → Option (Bool)
 | 0, _, _, _ => none
 | k + 1, x3, x9, x10 => if x10 < (x3.length : Int) then (if 0 ≤ x10 then ((kind_Name.f ((rd_T41 x3 x10).f1)).bind fun t267 => (if t267.toList = ((rd_T41 x3 x10).f2).toList then ((kind_Of.f ((rd_T41 x3 x10).f2)).bind fun t270 => (if t270 = ((rd_T41 x3 x10).f1) then (stratumlaw04_KindStart.l2 k x3 (wrap64 (x9 + ((rd_T41 x3 x10).f3))) (wrap64 (x10 + 1))) else (some false))) else (some false))) else (none)) else (if x9 = 21 then ((kind_Base.f).bind fun t273 => (if t273 = 0 then ((kind_Width.f).bind fun t274 => (if t274 = x9 then ((kind_Uint.f).bind fun t275 => ((kind_Of.f (⟨#[117, 105, 110, 116]⟩ : ByteArray)).bind fun t276 => (if t275 = t276 then ((kind_Int.f).bind fun t277 => ((kind_Of.f (⟨#[105, 110, 116]⟩ : ByteArray)).bind fun t278 => (if t277 = t278 then ((kind_Bool.f).bind fun t279 => ((kind_Of.f (⟨#[98, 111, 111, 108]⟩ : ByteArray)).bind fun t280 => (if t279 = t280 then ((kind_Text.f).bind fun t281 => ((kind_Of.f (⟨#[116, 101, 120, 116]⟩ : ByteArray)).bind fun t282 => (if t281 = t282 then ((kind_Bytes.f).bind fun t283 => ((kind_Of.f (⟨#[98, 121, 116, 101, 115]⟩ : ByteArray)).bind fun t284 => (if t283 = t284 then ((stratumlaw04_awake.f k).bind fun t285 => (some t285)) else (some false)))) else (some false)))) else (some false)))) else (some false)))) else (some false)))) else (some false))) else (some false))) else (some false))
end
def stratumlaw04_KindStart.f (k : Nat) (a0_0 : Int) (a0_1 : Int) (a0_2 : ByteArray) (a0_3 : Int) : Option (Bool) := (stratumlaw04_awake.f k).bind fun t242 => (if t242 = true then ((stratumref01_Start.f).bind fun t243 => (if 5 ≤ (t243.length : Int) then ((some (t243.take (5 : Int).toNat : List (S41))).bind fun y246 => ((kind_Entries.f).bind fun t249 => ((kind_Entries.f).bind fun t252 => ((stratumlaw04_same.f k t249 y246).bind fun t255 => (if t255 = true then ((stratumlaw04_same.f k t252 y246).bind fun t256 => (stratumlaw04_KindStart.j0 k y246 t249 t252 (!t256) a0_0 a0_1 a0_2 a0_3)) else (stratumlaw04_KindStart.j0 k y246 t249 t252 true a0_0 a0_1 a0_2 a0_3)))))) else (none))) else (some false))
def stratumlaw04_KindStart.T23 : Bool × List (List Nat × List Nat) := (true, [([], []), ([], []), ([0, 1], [0, 1]), ([2], [2]), ([3], [3]), ([4], [4]), ([], []), ([], []), ([6, 7], [6, 7]), ([8], [8]), ([9], [9]), ([5, 10], [5, 10]), ([11, 5], [11]), ([12], [12]), ([12], [12]), ([13, 14, 12], [12, 13, 14]), ([15, 12], [12, 15]), ([16, 12], [12, 16]), ([17, 12, 12], [12, 17]), ([12], [12]), ([12], [12]), ([19, 20, 12], [12, 19, 20]), ([21, 12], [12, 21]), ([22, 12], [12, 22]), ([18, 23, 12], [12, 18, 23]), ([12, 24], [12, 24])])
def stratumlaw04_KindStart.B23 : List Nat := [0, 0, 3, 7, 15, 31, 0, 0, 192, 448, 960, 2047, 4095, 8191, 8191, 32767, 65535, 131071, 262143, 8191, 8191, 1581055, 3678207, 7872511, 16777215, 33554431]
theorem stratumlaw04_KindStart.tab23 : rtab .any (opsOf Try.f8 23) = stratumlaw04_KindStart.T23 := by kernel_rfl
theorem stratumlaw04_KindStart.bits23 : waitsOk stratumlaw04_KindStart.T23.2 stratumlaw04_KindStart.B23 = true := by kernel_rfl
set_option maxHeartbeats 8000000 in
set_option maxRecDepth 100000 in
theorem stratumlaw04_KindStart.calls (k : Nat) (a0_0 : Int) (a0_1 : Int) (a0_2 : ByteArray) (a0_3 : Int) (r : Bool) (w : World) (h : stratumlaw04_KindStart.f k a0_0 a0_1 a0_2 a0_3 = some r) (hr_ : Aside0 (r = true)) :
  Calls Try.prog 8 #[.agg #[.int .i64 a0_0, .int .i64 a0_1, .string a0_2, .int .i64 a0_3]] w fun e w' => e = .returned (.bool r) ∧ Below w.heap.size w w' := by
 have hu41 := Try.underlying41
 have HB := Aside0.mk (Below.refl w.heap.size w)
 have H : ((stratumlaw04_awake.f k).bind fun t242 => (if t242 = true then ((stratumref01_Start.f).bind fun t243 => (if 5 ≤ (t243.length : Int) then ((some (t243.take (5 : Int).toNat : List (S41))).bind fun y246 => ((kind_Entries.f).bind fun t249 => ((kind_Entries.f).bind fun t252 => ((stratumlaw04_same.f k t249 y246).bind fun t255 => (if t255 = true then ((stratumlaw04_same.f k t252 y246).bind fun t256 => (stratumlaw04_KindStart.j0 k y246 t249 t252 (!t256) a0_0 a0_1 a0_2 a0_3)) else (stratumlaw04_KindStart.j0 k y246 t249 t252 true a0_0 a0_1 a0_2 a0_3)))))) else (none))) else (some false))) = some r := h
 clear h
 replace H := Option.bind_eq_some_iff.mp H
 obtain ⟨t242, A20, H⟩ := H
 replace H : (if t242 = true then ((stratumref01_Start.f).bind fun t243 => (if 5 ≤ (t243.length : Int) then ((some (t243.take (5 : Int).toNat : List (S41))).bind fun y246 => ((kind_Entries.f).bind fun t249 => ((kind_Entries.f).bind fun t252 => ((stratumlaw04_same.f k t249 y246).bind fun t255 => (if t255 = true then ((stratumlaw04_same.f k t252 y246).bind fun t256 => (stratumlaw04_KindStart.j0 k y246 t249 t252 (!t256) a0_0 a0_1 a0_2 a0_3)) else (stratumlaw04_KindStart.j0 k y246 t249 t252 true a0_0 a0_1 a0_2 a0_3)))))) else (none))) else (some false)) = some r := H
 have A2 := Aside0.mk A20
 clear A20
 by_cases c3 : t242 = true
 ·subst c3
  have H1 : ((stratumref01_Start.f).bind fun t243 => (if 5 ≤ (t243.length : Int) then ((some (t243.take (5 : Int).toNat : List (S41))).bind fun y246 => ((kind_Entries.f).bind fun t249 => ((kind_Entries.f).bind fun t252 => ((stratumlaw04_same.f k t249 y246).bind fun t255 => (if t255 = true then ((stratumlaw04_same.f k t252 y246).bind fun t256 => (stratumlaw04_KindStart.j0 k y246 t249 t252 (!t256) a0_0 a0_1 a0_2 a0_3)) else (stratumlaw04_KindStart.j0 k y246 t249 t252 true a0_0 a0_1 a0_2 a0_3)))))) else (none))) = some r := by rw [if_pos rfl] at H; exact H
  clear H
  have H := H1
  clear H1
  replace H := Option.bind_eq_some_iff.mp H
  obtain ⟨t243, A40, H⟩ := H
  replace H : (if 5 ≤ (t243.length : Int) then ((some (t243.take (5 : Int).toNat : List (S41))).bind fun y246 => ((kind_Entries.f).bind fun t249 => ((kind_Entries.f).bind fun t252 => ((stratumlaw04_same.f k t249 y246).bind fun t255 => (if t255 = true then ((stratumlaw04_same.f k t252 y246).bind fun t256 => (stratumlaw04_KindStart.j0 k y246 t249 t252 (!t256) a0_0 a0_1 a0_2 a0_3)) else (stratumlaw04_KindStart.j0 k y246 t249 t252 true a0_0 a0_1 a0_2 a0_3)))))) else (none)) = some r := H
  have A4 := Aside0.mk A40
  clear A40
  by_cases c5 : 5 ≤ (t243.length : Int)
  ·rw [if_pos c5] at H
   have c5b0 := eq_true c5
   have c5b1 : decide (5 ≤ (t243.length : Int)) = true := decide_eq_true c5
   clear c5
   obtain ⟨y246, hy246⟩ : ∃ y_ : List (S41), y_ = (t243.take (5 : Int).toNat) := ⟨_, rfl⟩
   replace H : ((kind_Entries.f).bind fun t249 => ((kind_Entries.f).bind fun t252 => ((stratumlaw04_same.f k t249 y246).bind fun t255 => (if t255 = true then ((stratumlaw04_same.f k t252 y246).bind fun t256 => (stratumlaw04_KindStart.j0 k y246 t249 t252 (!t256) a0_0 a0_1 a0_2 a0_3)) else (stratumlaw04_KindStart.j0 k y246 t249 t252 true a0_0 a0_1 a0_2 a0_3))))) = some r := by first | (rw [hy246]; with_reducible exact H) | (have H2_ := (Option.bind_some _ _).symm.trans H; rw [hy246]; with_reducible exact H2_) | (have H2_ := (Option.bind_some _ _).symm.trans H; with_reducible exact H2_) | with_reducible exact H | (rw [hy246]; exact H) | exact H
   have Ny246 := Aside0.mk hy246
   clear hy246
   replace H := Option.bind_eq_some_iff.mp H
   obtain ⟨t249, A60, H⟩ := H
   replace H : ((kind_Entries.f).bind fun t252 => ((stratumlaw04_same.f k t249 y246).bind fun t255 => (if t255 = true then ((stratumlaw04_same.f k t252 y246).bind fun t256 => (stratumlaw04_KindStart.j0 k y246 t249 t252 (!t256) a0_0 a0_1 a0_2 a0_3)) else (stratumlaw04_KindStart.j0 k y246 t249 t252 true a0_0 a0_1 a0_2 a0_3)))) = some r := H
   have A6 := Aside0.mk A60
   clear A60
   replace H := Option.bind_eq_some_iff.mp H
   obtain ⟨t252, A70, H⟩ := H
   replace H : ((stratumlaw04_same.f k t249 y246).bind fun t255 => (if t255 = true then ((stratumlaw04_same.f k t252 y246).bind fun t256 => (stratumlaw04_KindStart.j0 k y246 t249 t252 (!t256) a0_0 a0_1 a0_2 a0_3)) else (stratumlaw04_KindStart.j0 k y246 t249 t252 true a0_0 a0_1 a0_2 a0_3))) = some r := H
   have A7 := Aside0.mk A70
   clear A70
   have HC8 := Aside0.mk H
   clear H
   go_enter Try.func8, Try.ntmps8
   go_upto_region 6 with (first | ((with_reducible refine gate_dst (N := 1) rfl ?_); (try (refine gate_guard (by rfl) ?_; dsimp only)); refine box_event ?hg (N := 1) ?hd (cs := #[.int .i64 a0_0, .int .i64 a0_1, .string a0_2, .int .i64 a0_3]) (t := 41) ?hr ?_; (case hd => rfl); (case hg => rfl); (case hr => first | (go_simp; done) | (go_simp; rfl)); intro gb241 hg w9 hbox hb; have n0_ := Aside0.mk (below_step (by repeat (first | (with_reducible first | exact HB.out | apply below_alloc | apply pw_below_drewN | apply below_drew1) | exact HB.out)) hb); have n1_ := Aside0.mk (hbox); have n2_ := Aside0.mk ((by rw [hg]; exact (below_size (by repeat (first | (with_reducible first | exact HB.out | apply below_alloc | apply pw_below_drewN | apply below_drew1) | exact HB.out))) : w.heap.size ≤ gb241)); have n3_ := Aside0.mk ((by rw [hg]; exact (below_size (by repeat (first | (with_reducible first | exact HB.out | apply below_alloc | apply pw_below_drewN | apply below_drew1) | exact HB.out))) : w.heap.size ≤ gb241)); clear HB; have HB := n0_; have BK241 := n1_; have GW241 := n2_; have GE241 := n3_; clear n0_ n1_ n2_ n3_; clear hb hbox hg) | ((with_reducible refine gate_callee (f := 9) rfl ?_); refine goesL_ (some 11) rfl rfl Try.func9 (by kernel_rfl) rfl #[] rfl (by (try simp only [List.map_toArray, List.map_cons, List.map_nil]); first | done | rfl | (simp only [List.length_drop, List.length_take]; rfl)) ?_; (with_reducible refine (stratumlaw04_awake.calls k  true _ A2.out).mono ?_); rintro e w10 ⟨rfl, hb⟩; refine ⟨_, rfl, ?_⟩; have n0_ := Aside0.mk (blk_below (g := gb241) (o := .cells #[.int .i64 a0_0, .int .i64 a0_1, .string a0_2, .int .i64 a0_3] 41 (0, 0)) (by (with_reducible repeat (first | refine blk_drewN ?_ _ | refine blk_drew ?_ | refine blk_alloc ?_ _)); exact BK241.out) hb); have n1_ := Aside0.mk (below_step (by repeat (first | (with_reducible first | exact HB.out | apply below_alloc | apply pw_below_drewN | apply below_drew1 | refine below_set ?_ GE241.out) | exact HB.out)) hb); clear BK241; clear HB; have BK241 := n0_; have HB := n1_; clear n0_ n1_; (try clear hb); (try clear hb2); (try clear hk); (try clear hi)) | ((with_reducible refine gate_callee (f := 24) rfl ?_); refine goesL_ (some 13) rfl rfl Try.func24 (by kernel_rfl) rfl #[] rfl (by (try simp only [List.map_toArray, List.map_cons, List.map_nil]); first | done | rfl | (simp only [List.length_drop, List.length_take]; rfl)) ?_; (with_reducible refine (stratumref01_Start.calls  t243 _ A4.out).mono ?_); rintro e w11 ⟨v244, rfl, ho0, hb⟩; refine ⟨_, rfl, ?_⟩; have n0_ := Aside0.mk (Kd.R_lower (Kd.R_newB ho0 (g := gb241) (o := .cells #[.int .i64 a0_0, .int .i64 a0_1, .string a0_2, .int .i64 a0_3] 41 (0, 0)) (by (with_reducible repeat (first | refine blk_drewN ?_ _ | refine blk_drew ?_ | refine blk_alloc ?_ _)); exact BK241.out)) (below_size (by repeat (first | (with_reducible first | exact HB.out | apply below_alloc | apply pw_below_drewN | apply below_drew1 | refine below_set ?_ GE241.out) | exact HB.out)))); have n1_ := Aside0.mk (blk_below (g := gb241) (o := .cells #[.int .i64 a0_0, .int .i64 a0_1, .string a0_2, .int .i64 a0_3] 41 (0, 0)) (by (with_reducible repeat (first | refine blk_drewN ?_ _ | refine blk_drew ?_ | refine blk_alloc ?_ _)); exact BK241.out) hb); have n2_ := Aside0.mk (below_step (by repeat (first | (with_reducible first | exact HB.out | apply below_alloc | apply pw_below_drewN | apply below_drew1 | refine below_set ?_ GE241.out) | exact HB.out)) hb); clear BK241; clear HB; have HO245 := n0_; have BK241 := n1_; have HB := n2_; clear n0_ n1_ n2_; (try clear hb); (try clear hb2); (try clear hk); (try clear hi); (try clear ho0); obtain ⟨Ao12, co12, eo12⟩ := Kd.R_slice HO245.out; subst eo12; have q13 : (5 : Int) ≤ ((t243.length : Int) : Int) := of_decide_eq_true (by first | (with_reducible assumption) | assumption); obtain ⟨i013, hi013, _, hsz13, _⟩ := info_parts info41; have hcut13 := cut_to (P := Try.prog) 42 41 .i64 Try.underlying42 hi013 Ao12 t243.length co12 5 (by omega) q13 (Kd.R_reads' HO245.out).2.1; have hr13 := Kd.R_take (m := (5 : Int).toNat) HO245.out (by omega); have hy13 : y246.length = (5 : Int).toNat := (by rw [Ny246.out, List.length_take]; omega); rw [← Ny246.out] at hr13; rw [← hy13] at hr13 hcut13; clear hy13 hi013 hsz13 HO245; have HO248 := Aside0.mk hr13; clear hr13; replace q13 := eq_true q13) | ((with_reducible refine gate_callee (f := 25) rfl ?_); refine goesL_ (some 15) rfl rfl Try.func25 (by kernel_rfl) rfl #[] rfl (by (try simp only [List.map_toArray, List.map_cons, List.map_nil]); first | done | rfl | (simp only [List.length_drop, List.length_take]; rfl)) ?_; (with_reducible refine (kind_Entries.calls  t249 _ A6.out).mono ?_); rintro e w14 ⟨v250, rfl, ⟨ho0, ⟨Af250, ef250⟩⟩, hb⟩; have FX250 := Aside0.mk ef250; clear ef250; refine ⟨_, rfl, ?_⟩; have n0_ := Aside0.mk (Kd.R_elder' (by (with_reducible repeat (first | apply Kd.R_alloc | apply Kd.R_drewN | apply Kd.R_drew)); exact HO248.out) (Kd.R_base ho0) hb); have n1_ := Aside0.mk (Kd.R_lower (Kd.R_newB (Kd.R_new' ho0 (Kd.R_lt (by (with_reducible repeat (first | apply Kd.R_alloc | apply Kd.R_drewN | apply Kd.R_drew)); exact HO248.out))) (g := gb241) (o := .cells #[.int .i64 a0_0, .int .i64 a0_1, .string a0_2, .int .i64 a0_3] 41 (0, 0)) (by (with_reducible repeat (first | refine blk_drewN ?_ _ | refine blk_drew ?_ | refine blk_alloc ?_ _)); exact BK241.out)) (below_size (by repeat (first | (with_reducible first | exact HB.out | apply below_alloc | apply pw_below_drewN | apply below_drew1 | refine below_set ?_ GE241.out) | exact HB.out)))); have n2_ := Aside0.mk (blk_below (g := gb241) (o := .cells #[.int .i64 a0_0, .int .i64 a0_1, .string a0_2, .int .i64 a0_3] 41 (0, 0)) (by (with_reducible repeat (first | refine blk_drewN ?_ _ | refine blk_drew ?_ | refine blk_alloc ?_ _)); exact BK241.out) hb); have n3_ := Aside0.mk (below_step (by repeat (first | (with_reducible first | exact HB.out | apply below_alloc | apply pw_below_drewN | apply below_drew1 | refine below_set ?_ GE241.out) | exact HB.out)) hb); clear HO248; clear BK241; clear HB; have HO248 := n0_; have HO251 := n1_; have BK241 := n2_; have HB := n3_; clear n0_ n1_ n2_ n3_; (try clear hb); (try clear hb2); (try clear hk); (try clear hi); (try clear ho0)) | ((with_reducible refine gate_callee (f := 25) rfl ?_); refine goesL_ (some 16) rfl rfl Try.func25 (by kernel_rfl) rfl #[] rfl (by (try simp only [List.map_toArray, List.map_cons, List.map_nil]); first | done | rfl | (simp only [List.length_drop, List.length_take]; rfl)) ?_; (with_reducible refine (kind_Entries.calls  t252 _ A7.out).mono ?_); rintro e w15 ⟨v253, rfl, ⟨ho0, ⟨Af253, ef253⟩⟩, hb⟩; have FX253 := Aside0.mk ef253; clear ef253; refine ⟨_, rfl, ?_⟩; have n0_ := Aside0.mk (Kd.R_elder' (by (with_reducible repeat (first | apply Kd.R_alloc | apply Kd.R_drewN | apply Kd.R_drew)); exact HO248.out) (Kd.R_base ho0) hb); have n1_ := Aside0.mk (Kd.R_elder' (by (with_reducible repeat (first | apply Kd.R_alloc | apply Kd.R_drewN | apply Kd.R_drew)); exact HO251.out) (Kd.R_base ho0) hb); have n2_ := Aside0.mk (Kd.R_lower (Kd.R_newB (Kd.R_new' (Kd.R_new' ho0 (Kd.R_lt (by (with_reducible repeat (first | apply Kd.R_alloc | apply Kd.R_drewN | apply Kd.R_drew)); exact HO248.out))) (Kd.R_lt (by (with_reducible repeat (first | apply Kd.R_alloc | apply Kd.R_drewN | apply Kd.R_drew)); exact HO251.out))) (g := gb241) (o := .cells #[.int .i64 a0_0, .int .i64 a0_1, .string a0_2, .int .i64 a0_3] 41 (0, 0)) (by (with_reducible repeat (first | refine blk_drewN ?_ _ | refine blk_drew ?_ | refine blk_alloc ?_ _)); exact BK241.out)) (below_size (by repeat (first | (with_reducible first | exact HB.out | apply below_alloc | apply pw_below_drewN | apply below_drew1 | refine below_set ?_ GE241.out) | exact HB.out)))); have n3_ := Aside0.mk (blk_below (g := gb241) (o := .cells #[.int .i64 a0_0, .int .i64 a0_1, .string a0_2, .int .i64 a0_3] 41 (0, 0)) (by (with_reducible repeat (first | refine blk_drewN ?_ _ | refine blk_drew ?_ | refine blk_alloc ?_ _)); exact BK241.out) hb); have n4_ := Aside0.mk (below_step (by repeat (first | (with_reducible first | exact HB.out | apply below_alloc | apply pw_below_drewN | apply below_drew1 | refine below_set ?_ GE241.out) | exact HB.out)) hb); clear HO248; clear HO251; clear BK241; clear HB; have HO248 := n0_; have HO251 := n1_; have HO254 := n2_; have BK241 := n3_; have HB := n4_; clear n0_ n1_ n2_ n3_ n4_; (try clear hb); (try clear hb2); (try clear hk); (try clear hi); (try clear ho0)))
   (try simp only [Act.put, List.setIfInBounds_toArray, List.set_cons_zero, List.set_cons_succ])
   go_cut [26] (fun v26 wc => ∃ (kq : Nat) (x26_7 : Bool), v26 = .bool x26_7 ∧ Aside0 (stratumlaw04_KindStart.j0 kq y246 t249 t252 x26_7 a0_0 a0_1 a0_2 a0_3 = some r) ∧ Aside0 (kq ≤ k) ∧ Aside0 (Kd.R k41 41 wc w.heap.size (fun k_ => some k_ ≠ (v250 : Value).ownBlock ∧ some k_ ≠ (v253 : Value).ownBlock ∧ k_ ≠ gb241) (.slice Ao12 y246.length co12) y246) ∧ Aside0 (Kd.R k41 52 wc w.heap.size (fun k_ => some k_ ≠ ((.slice Ao12 y246.length co12) : Value).ownBlock ∧ some k_ ≠ (v253 : Value).ownBlock ∧ k_ ≠ gb241) v250 t249) ∧ Aside0 (Kd.R k41 52 wc w.heap.size (fun k_ => some k_ ≠ ((.slice Ao12 y246.length co12) : Value).ownBlock ∧ some k_ ≠ (v250 : Value).ownBlock ∧ k_ ≠ gb241) v253 t252) ∧ Aside0 (wc.heap[gb241]? = some (.cells #[.int .i64 a0_0, .int .i64 a0_1, .string a0_2, .int .i64 a0_3] 41 (0, 0))) ∧ Aside0 (Below w.heap.size w wc))
   case first =>
    have H := HC8.out
    clear HC8
    replace H := Option.bind_eq_some_iff.mp H
    obtain ⟨t255, A160, H⟩ := H
    replace H : (if t255 = true then ((stratumlaw04_same.f k t252 y246).bind fun t256 => (stratumlaw04_KindStart.j0 k y246 t249 t252 (!t256) a0_0 a0_1 a0_2 a0_3)) else (stratumlaw04_KindStart.j0 k y246 t249 t252 true a0_0 a0_1 a0_2 a0_3)) = some r := H
    have A16 := Aside0.mk A160
    clear A160
    by_cases c17 : t255 = true
    ·subst c17
     have H1 : ((stratumlaw04_same.f k t252 y246).bind fun t256 => (stratumlaw04_KindStart.j0 k y246 t249 t252 (!t256) a0_0 a0_1 a0_2 a0_3)) = some r := by rw [if_pos rfl] at H; exact H
     clear H
     have H := H1
     clear H1
     replace H := Option.bind_eq_some_iff.mp H
     obtain ⟨t256, A180, H⟩ := H
     replace H : (stratumlaw04_KindStart.j0 k y246 t249 t252 (!t256) a0_0 a0_1 a0_2 a0_3) = some r := H
     have A18 := Aside0.mk A180
     clear A180
     have H' := Aside0.mk H
     clear H
     obtain ⟨Ao19, co19, eo19⟩ := Kd.R_slice HO251.out
     subst eo19
     go_wp2_with (first | ((with_reducible refine gate_callee (f := 26) rfl ?_); refine goesL_ (some 19) rfl rfl Try.func26 (by kernel_rfl) rfl #[.slice Ao19 t249.length co19, .slice Ao12 y246.length co12] rfl (by (try simp only [List.map_toArray, List.map_cons, List.map_nil]); first | done | rfl | (simp only [List.length_drop, List.length_take]; rfl)) ?_; (with_reducible refine (stratumlaw04_same.calls k _ _ t249 _ _ y246 true _ ?side1 ?side2 ?side3 ?side4 A16.out).mono ?_); (case side1 => repeat (first | exact (Kd.R_reads' HO251.out).2.2 | (with_reducible refine Kd.C_alloc ?_ _) | (with_reducible refine Kd.C_drewN ?_ _) | (with_reducible refine Kd.C_drew ?_))); (case side2 => exact (Kd.R_reads' HO251.out).2.1); (case side3 => repeat (first | exact (Kd.R_reads' HO248.out).2.2 | (with_reducible refine Kd.C_alloc ?_ _) | (with_reducible refine Kd.C_drewN ?_ _) | (with_reducible refine Kd.C_drew ?_))); (case side4 => exact (Kd.R_reads' HO248.out).2.1); rintro e w' ⟨rfl, ⟨nd, rfl⟩⟩; refine ⟨_, rfl, ?_⟩; obtain ⟨Ao20, co20, eo20⟩ := Kd.R_slice HO254.out; subst eo20) | (go_at_call 26; (with_reducible refine (stratumlaw04_same.calls k _ _ t252 _ _ y246 t256 _ ?side1 ?side2 ?side3 ?side4 A18.out).mono ?_); (case side1 => repeat (first | exact (Kd.R_reads' HO254.out).2.2 | (with_reducible refine Kd.C_alloc ?_ _) | (with_reducible refine Kd.C_drewN ?_ _) | (with_reducible refine Kd.C_drew ?_))); (case side2 => exact (Kd.R_reads' HO254.out).2.1); (case side3 => repeat (first | exact (Kd.R_reads' HO248.out).2.2 | (with_reducible refine Kd.C_alloc ?_ _) | (with_reducible refine Kd.C_drewN ?_ _) | (with_reducible refine Kd.C_drew ?_))); (case side4 => exact (Kd.R_reads' HO248.out).2.1); rintro e w' ⟨rfl, ⟨nd, rfl⟩⟩))
     go_meet
     case rel => exact ⟨_, (!t256), (by first | rfl | (simp; done) | (simp [*]; done)), H', ⟨by first | omega | exact Nat.le_refl _⟩, ⟨by (with_reducible repeat (first | apply Kd.R_alloc | apply Kd.R_drewN | apply Kd.R_drew)); exact Kd.R_mono HO248.out (fun _ hk => ⟨hk.1.2, ⟨hk.2, hk.1.1.2⟩⟩)⟩, ⟨by (with_reducible repeat (first | apply Kd.R_alloc | apply Kd.R_drewN | apply Kd.R_drew)); exact Kd.R_mono HO251.out (fun _ hk => ⟨hk.1.1.2, ⟨hk.2, hk.1.2⟩⟩)⟩, ⟨by (with_reducible repeat (first | apply Kd.R_alloc | apply Kd.R_drewN | apply Kd.R_drew)); exact Kd.R_mono HO254.out (fun _ hk => ⟨hk.1.1.2, ⟨hk.1.2, hk.2⟩⟩)⟩, ⟨by (with_reducible repeat (first | refine blk_drewN ?_ _ | refine blk_drew ?_ | refine blk_alloc ?_ _)); exact BK241.out⟩, ⟨by repeat (first | (with_reducible first | exact HB.out | apply below_alloc | apply pw_below_drewN | apply below_drew1 | refine below_set ?_ GE241.out) | exact HB.out)⟩⟩
    ·replace c17 := Bool.eq_false_iff.mpr c17
     subst c17
     have H1 : (stratumlaw04_KindStart.j0 k y246 t249 t252 true a0_0 a0_1 a0_2 a0_3) = some r := by rw [if_neg (show ¬ (false = true) by decide)] at H; exact H
     clear H
     have H := H1
     clear H1
     have H' := Aside0.mk H
     clear H
     obtain ⟨Ao21, co21, eo21⟩ := Kd.R_slice HO251.out
     subst eo21
     go_wp2_with (first | ((with_reducible refine gate_callee (f := 26) rfl ?_); refine goesL_ (some 19) rfl rfl Try.func26 (by kernel_rfl) rfl #[.slice Ao21 t249.length co21, .slice Ao12 y246.length co12] rfl (by (try simp only [List.map_toArray, List.map_cons, List.map_nil]); first | done | rfl | (simp only [List.length_drop, List.length_take]; rfl)) ?_; (with_reducible refine (stratumlaw04_same.calls k _ _ t249 _ _ y246 false _ ?side1 ?side2 ?side3 ?side4 A16.out).mono ?_); (case side1 => repeat (first | exact (Kd.R_reads' HO251.out).2.2 | (with_reducible refine Kd.C_alloc ?_ _) | (with_reducible refine Kd.C_drewN ?_ _) | (with_reducible refine Kd.C_drew ?_))); (case side2 => exact (Kd.R_reads' HO251.out).2.1); (case side3 => repeat (first | exact (Kd.R_reads' HO248.out).2.2 | (with_reducible refine Kd.C_alloc ?_ _) | (with_reducible refine Kd.C_drewN ?_ _) | (with_reducible refine Kd.C_drew ?_))); (case side4 => exact (Kd.R_reads' HO248.out).2.1); rintro e w' ⟨rfl, ⟨nd, rfl⟩⟩; refine ⟨_, rfl, ?_⟩))
     go_meet
     case rel => exact ⟨_, (true), (by first | rfl | (simp; done) | (simp [*]; done)), H', ⟨by first | omega | exact Nat.le_refl _⟩, ⟨by (with_reducible repeat (first | apply Kd.R_alloc | apply Kd.R_drewN | apply Kd.R_drew)); exact Kd.R_mono HO248.out (fun _ hk => ⟨hk.1.2, ⟨hk.2, hk.1.1.2⟩⟩)⟩, ⟨by (with_reducible repeat (first | apply Kd.R_alloc | apply Kd.R_drewN | apply Kd.R_drew)); exact Kd.R_mono HO251.out (fun _ hk => ⟨hk.1.1.2, ⟨hk.2, hk.1.2⟩⟩)⟩, ⟨by (with_reducible repeat (first | apply Kd.R_alloc | apply Kd.R_drewN | apply Kd.R_drew)); exact Kd.R_mono HO254.out (fun _ hk => ⟨hk.1.1.2, ⟨hk.1.2, hk.2⟩⟩)⟩, ⟨by (with_reducible repeat (first | refine blk_drewN ?_ _ | refine blk_drew ?_ | refine blk_alloc ?_ _)); exact BK241.out⟩, ⟨by repeat (first | (with_reducible first | exact HB.out | apply below_alloc | apply pw_below_drewN | apply below_drew1 | refine below_set ?_ GE241.out) | exact HB.out)⟩⟩
   case rest =>
    clear HC8
    try clear c1
    try clear q1
    try clear c2
    try clear p2
    try clear c3
    try clear c5
    try clear c5b0
    try clear c5b1
    try clear c8
    try clear c9
    try clear q13
    try clear c17
    try clear q13
    obtain ⟨kq, x26_7, rfl, HA, HJ7, HO_3, HO_4, HO_5, BK241, HB⟩ := hcut
    cases kq with
    | zero => exact absurd HA.out (by simp [stratumlaw04_KindStart.j0])
    | succ kj7 =>
     have H := HA.out
     clear HA
     simp only [stratumlaw04_KindStart.j0] at H
     by_cases c22 : x26_7 = true
     ·subst c22
      have H1 : (some false) = some r := by rw [if_pos rfl] at H; exact H
      clear H
      have H := H1
      clear H1
      exact absurd ((Option.some.inj H).trans hr_.out) (by simp)
     ·replace c22 := Bool.eq_false_iff.mpr c22
      subst c22
      have H1 : (stratumlaw04_KindStart.l0 kj7 y246 t249 t252 0 a0_0 a0_1 a0_2 a0_3) = some r := by rw [if_neg (show ¬ (false = true) by decide)] at H; exact H
      clear H
      have H := H1
      clear H1
      have H' := Aside0.mk H
      clear H
      go_wp2
      go_loopg [6] kj7 (fun kq v6 w' => ∃ (x4_2 : List (S41)) (x6_2 : Int) (x242000_2 : Int) (x242001_2 : Int) (x242002_2 : ByteArray) (x242003_2 : Int), v6 = .int .i64 x6_2 ∧ Aside0 (stratumlaw04_KindStart.l0 kq y246 x4_2 t252 x6_2 x242000_2 x242001_2 x242002_2 x242003_2 = some r) ∧ Aside0 (kq ≤ kj7) ∧ Aside0 (Kd.R k41 41 w' w.heap.size (fun k_ => some k_ ≠ (v250 : Value).ownBlock ∧ some k_ ≠ (v253 : Value).ownBlock ∧ k_ ≠ gb241) (.slice Ao12 y246.length co12) y246) ∧ Aside0 (Kd.R k41 52 w' w.heap.size (fun k_ => some k_ ≠ ((.slice Ao12 y246.length co12) : Value).ownBlock ∧ some k_ ≠ (v253 : Value).ownBlock ∧ k_ ≠ gb241) v250 x4_2) ∧ Aside0 (Kd.R k41 52 w' w.heap.size (fun k_ => some k_ ≠ ((.slice Ao12 y246.length co12) : Value).ownBlock ∧ some k_ ≠ (v250 : Value).ownBlock ∧ k_ ≠ gb241) v253 t252) ∧ Aside0 (w'.heap[gb241]? = some (.cells #[.int .i64 x242000_2, .int .i64 x242001_2, .string x242002_2, .int .i64 x242003_2] 41 (0, 0))) ∧ Aside0 (Below w.heap.size w w'))
      case atStart => exact ⟨(t249), (0), (a0_0), (a0_1), (a0_2), (a0_3), (by first | rfl | (simp; done) | (simp [*]; done)), H', ⟨Nat.le_refl _⟩, ⟨by (with_reducible repeat (first | apply Kd.R_alloc | apply Kd.R_drewN | apply Kd.R_drew)); exact HO_3.out⟩, ⟨by (with_reducible repeat (first | apply Kd.R_alloc | apply Kd.R_drewN | apply Kd.R_drew)); exact HO_4.out⟩, ⟨by (with_reducible repeat (first | apply Kd.R_alloc | apply Kd.R_drewN | apply Kd.R_drew)); exact HO_5.out⟩, ⟨by (with_reducible repeat (first | refine blk_drewN ?_ _ | refine blk_drew ?_ | refine blk_alloc ?_ _)); exact BK241.out⟩, ⟨by repeat (first | (with_reducible first | exact HB.out | apply below_alloc | apply pw_below_drewN | apply below_drew1 | refine below_set ?_ GE241.out) | exact HB.out)⟩⟩
      case round =>
       clear H'
       try clear c1
       try clear q1
       try clear c2
       try clear p2
       try clear c3
       try clear c5
       try clear c5b0
       try clear c5b1
       try clear c8
       try clear c9
       try clear q13
       try clear c17
       try clear c22
       try clear p2
       try clear q1
       try clear q13
       obtain ⟨x4_2, x6_2, x242000_2, x242001_2, x242002_2, x242003_2, rfl, HA, HK2, HO_3, HO_4, HO_5, BK241, HB⟩ := hrel
       cases gk with
       | zero => exact absurd HA.out (by simp [stratumlaw04_KindStart.l0])
       | succ k2 =>
        have H := HA.out
        clear HA
        simp only [stratumlaw04_KindStart.l0] at H
        by_cases c23 : x6_2 < (x4_2.length : Int)
        ·rw [if_pos c23] at H
         have c23b0 : decide (x6_2 < (x4_2.length : Int)) = true := decide_eq_true c23
         clear c23
         by_cases c24 : 0 ≤ x6_2
         ·rw [if_pos c24] at H
          have c24b0 : decide (0 ≤ x6_2) = true := decide_eq_true c24
          clear c24
          obtain ⟨y257, hy257⟩ : ∃ y_ : List (S41), y_ = (x4_2.set (x6_2 : Int).toNat (⟨x242000_2, x242001_2, x242002_2, x242003_2⟩ : S41)) := ⟨_, rfl⟩
          replace H : (stratumlaw04_KindStart.l0 k2 y246 y257 t252 (wrap64 (x6_2 + 1)) x242000_2 x242001_2 x242002_2 x242003_2) = some r := by first | (rw [hy257]; with_reducible exact H) | (have H2_ := (Option.bind_some _ _).symm.trans H; rw [hy257]; with_reducible exact H2_) | (have H2_ := (Option.bind_some _ _).symm.trans H; with_reducible exact H2_) | with_reducible exact H | (rw [hy257]; exact H) | exact H
          have Ny257 := Aside0.mk hy257
          clear hy257
          have H' := Aside0.mk H
          clear H
          obtain ⟨Ao26, co26, eo26⟩ := Kd.R_slice HO_4.out
          subst eo26
          have hcz27_0 : wr.cell? ⟨gb241, 0, none⟩ = some (.int .i64 x242000_2) := (blk_cell BK241.out 0).trans rfl
          have hcz27_1 : wr.cell? ⟨gb241, 1, none⟩ = some (.int .i64 x242001_2) := (blk_cell BK241.out 1).trans rfl
          have hcz27_2 : wr.cell? ⟨gb241, 2, none⟩ = some (.string x242002_2) := (blk_cell BK241.out 2).trans rfl
          have hcz27_3 : wr.cell? ⟨gb241, 3, none⟩ = some (.int .i64 x242003_2) := (blk_cell BK241.out 3).trans rfl
          have hfz27_0 := blk_frozen BK241.out 0
          have hfz27_1 := blk_frozen BK241.out 1
          have hfz27_2 := blk_frozen BK241.out 2
          have hfz27_3 := blk_frozen BK241.out 3
          have p25 : 0 ≤ (x6_2 : Int) := of_decide_eq_true (by first | (with_reducible assumption) | assumption)
          have q25 : (x6_2 : Int) < ((x4_2.length : Int) : Int) := of_decide_eq_true (by first | (with_reducible assumption) | assumption)
          obtain ⟨go25, co25, eo25, gb25, gl25, cl25, HG25⟩ := Kd.R_form HO_4.out (by omega)
          (first | cases eo25 | (injection eo25 with ea_ en_ ec_; (first | subst ea_ | (injection ea_ with ea_; subst ea_)); subst ec_; clear en_))
          have GB25 := Aside0.mk gb25
          have GG25 := Aside0.mk HG25
          clear gb25 gl25 HG25
          obtain ⟨ce25, hcl25, hM25, hcc25, hfr25⟩ := Kd.R_elem HO_4.out z41 (x6_2 : Int) p25 q25
          obtain rfl := k41_openM hM25
          have hx25_0 : wr.cell? ⟨go25, (x6_2 : Int).toNat * 4, none⟩ = some (.int .i64 ((rd_T41 x4_2 x6_2).f0)) := hcc25 0 _ rfl
          have hx25_1 : wr.cell? ⟨go25, (x6_2 : Int).toNat * 4 + 1, none⟩ = some (.int .i64 ((rd_T41 x4_2 x6_2).f1)) := hcc25 1 _ rfl
          have hx25_2 : wr.cell? ⟨go25, (x6_2 : Int).toNat * 4 + 2, none⟩ = some (.string ((rd_T41 x4_2 x6_2).f2)) := hcc25 2 _ rfl
          have hx25_3 : wr.cell? ⟨go25, (x6_2 : Int).toNat * 4 + 3, none⟩ = some (.int .i64 ((rd_T41 x4_2 x6_2).f3)) := hcc25 3 _ rfl
          have hf25_0 : wr.frozen? ⟨go25, (x6_2 : Int).toNat * 4, none⟩ = false := hfr25 0
          have hf25_1 : wr.frozen? ⟨go25, (x6_2 : Int).toNat * 4 + 1, none⟩ = false := hfr25 1
          have hf25_2 : wr.frozen? ⟨go25, (x6_2 : Int).toNat * 4 + 2, none⟩ = false := hfr25 2
          have hf25_3 : wr.frozen? ⟨go25, (x6_2 : Int).toNat * 4 + 3, none⟩ = false := hfr25 3
          clear hcl25 hcc25 hfr25 hM25
          replace p25 := eq_true p25
          replace q25 := eq_true q25
          have HX28 := Aside0.mk (show Kd.R k41 52 wr w.heap.size (fun k_ => some k_ ≠ (.slice Ao12 y246.length co12 : Value).ownBlock ∧ some k_ ≠ (v253 : Value).ownBlock ∧ k_ ≠ gb241) (.slice (some ⟨go25, 0, none⟩) x4_2.length co26) x4_2 from (by (with_reducible repeat (first | apply Kd.R_alloc | apply Kd.R_drewN | apply Kd.R_drew)); exact HO_4.out))
          obtain ⟨ce28, hcl28, hM28, hcc28, hfr28⟩ := Kd.R_elem HX28.out z41 (x6_2 : Int) (of_decide_eq_true (by first | (with_reducible assumption) | assumption)) (by have h_ : (x6_2 : Int) < ((x4_2.length : Int) : Int) := of_decide_eq_true (by first | (with_reducible assumption) | assumption); first | exact h_ | (have e_ := (Kd.R_reads' HO_4.out).1; omega) | simpa using h_)
          obtain rfl := k41_openM hM28
          have HP28 := Kd.R_seg HX28.out (x6_2 : Int) (of_decide_eq_true (by first | (with_reducible assumption) | assumption)) (by have h_ : (x6_2 : Int) < ((x4_2.length : Int) : Int) := of_decide_eq_true (by first | (with_reducible assumption) | assumption); first | exact h_ | (have e_ := (Kd.R_reads' HO_4.out).1; omega) | simpa using h_) (seg := [.int .i64 x242000_2, .int .i64 x242001_2, .string x242002_2, .int .i64 x242003_2]) (j := 0) hcl28 hcc28 (show 4 ≤ 4 from by decide) (x' := (⟨x242000_2, x242001_2, x242002_2, x242003_2⟩ : S41)) (k41_mkM _ _ _ (⟨x242000_2, x242001_2, x242002_2, x242003_2⟩ : S41) ) (fun _ hk => hk)
          have hx28_0 := hcc28 0 _ rfl
          (try simp only [show (k41).sz = 4 from rfl, Nat.mul_one, Nat.add_zero] at hx28_0)
          have hf28_0 := hfr28 0
          (try simp only [show (k41).sz = 4 from rfl, Nat.mul_one, Nat.add_zero] at hf28_0)
          have hx28_1 := hcc28 1 _ rfl
          (try simp only [show (k41).sz = 4 from rfl, Nat.mul_one, Nat.add_zero] at hx28_1)
          have hf28_1 := hfr28 1
          (try simp only [show (k41).sz = 4 from rfl, Nat.mul_one, Nat.add_zero] at hf28_1)
          have hx28_2 := hcc28 2 _ rfl
          (try simp only [show (k41).sz = 4 from rfl, Nat.mul_one, Nat.add_zero] at hx28_2)
          have hf28_2 := hfr28 2
          (try simp only [show (k41).sz = 4 from rfl, Nat.mul_one, Nat.add_zero] at hf28_2)
          have hx28_3 := hcc28 3 _ rfl
          (try simp only [show (k41).sz = 4 from rfl, Nat.mul_one, Nat.add_zero] at hx28_3)
          have hf28_3 := hfr28 3
          (try simp only [show (k41).sz = 4 from rfl, Nat.mul_one, Nat.add_zero] at hf28_3)
          clear hcl28 hcc28 hfr28 hM28
          go_wp2_with (first | ((with_reducible refine gate_store (t := 41) (p := 36) rfl ?_); refine store_event (t := 41) (p := 36) (v := ?vo_w29) (w1 := ((((wr.setCell ⟨go25, (x6_2 : Int).toNat * 4, none⟩ (.int .i64 x242000_2)).setCell ⟨go25, (x6_2 : Int).toNat * 4 + 1, none⟩ (.int .i64 x242001_2)).setCell ⟨go25, (x6_2 : Int).toNat * 4 + 2, none⟩ (.string x242002_2)).setCell ⟨go25, (x6_2 : Int).toNat * 4 + 3, none⟩ (.int .i64 x242003_2))) ?hg ?ho ?hn ?hr ?_; (case ho => rfl); (case hg => rfl); (case hn => rfl); (case hr => first | (go_simp; done) | (go_simp; rfl)); intro w29 hw; have hg : wr.grownBy w29 (some go25) := (by rw [hw]; exact HP28.2); have hp_ : Kd.R k41 52 w29 w.heap.size (fun k_ => some k_ ≠ (.slice Ao12 y246.length co12 : Value).ownBlock ∧ some k_ ≠ (v253 : Value).ownBlock ∧ k_ ≠ gb241) (.slice (some ⟨go25, 0, none⟩) x4_2.length co26) y257 := (by rw [hw, Ny257.out]; exact HP28.1); clear HP28; have n0_ := Aside0.mk (Kd.R_after (v := (.slice (some ⟨go25, 0, none⟩) x4_2.length co26)) (v1 := (.slice (some ⟨go25, 0, none⟩) x4_2.length co26)) (ok := (fun k_ => some k_ ≠ (v253 : Value).ownBlock ∧ k_ ≠ gb241)) (by (with_reducible repeat (first | apply Kd.R_alloc | apply Kd.R_drewN | apply Kd.R_drew)); exact Kd.R_mono HO_3.out (fun _ hk => ⟨⟨hk.2.1, hk.2.2⟩, hk.1⟩)) hg (.inl rfl)); have n1_ := Aside0.mk (hp_); have n2_ := Aside0.mk (Kd.R_after (v := (.slice (some ⟨go25, 0, none⟩) x4_2.length co26)) (v1 := (.slice (some ⟨go25, 0, none⟩) x4_2.length co26)) (ok := (fun k_ => some k_ ≠ (.slice Ao12 y246.length co12 : Value).ownBlock ∧ k_ ≠ gb241)) (by (with_reducible repeat (first | apply Kd.R_alloc | apply Kd.R_drewN | apply Kd.R_drew)); exact Kd.R_mono HO_5.out (fun _ hk => ⟨⟨hk.1, hk.2.2⟩, hk.2.1⟩)) hg (.inl rfl)); have n3_ := Aside0.mk (blk_grown (g := gb241) (o := .cells #[.int .i64 x242000_2, .int .i64 x242001_2, .string x242002_2, .int .i64 x242003_2] 41 (0, 0)) (by (with_reducible repeat (first | refine blk_drewN ?_ _ | refine blk_drew ?_ | refine blk_alloc ?_ _)); exact BK241.out) hg (Kd.R_away HO_4.out (fun _ hk => hk.2.2))); have n4_ := Aside0.mk ((by rw [hw]; exact below_set (below_set (below_set (below_set (HB.out) GB25.out) GB25.out) GB25.out) GB25.out : Below w.heap.size w w29)); clear HO_3; clear HO_4; clear HO_5; clear BK241; clear HB; have HO_3 := n0_; have HO_4 := n1_; have HO_5 := n2_; have BK241 := n3_; have HB := n4_; clear n0_ n1_ n2_ n3_ n4_; clear hg hw hp_))
          go_roundg k2
          case measure => have := HJ7.out; have := HK2.out; omega
          case rel => exact ⟨(y257), (wrap64 (x6_2 + 1)), (x242000_2), (x242001_2), (x242002_2), (x242003_2), (by first | rfl | (simp; done) | (simp [*]; done)), H', ⟨by have := HJ7.out; have := HK2.out; omega⟩, ⟨by (with_reducible repeat (first | apply Kd.R_alloc | apply Kd.R_drewN | apply Kd.R_drew)); exact Kd.R_mono HO_3.out (fun _ hk => ⟨hk.2, ⟨hk.1.1, hk.1.2⟩⟩)⟩, ⟨by (with_reducible repeat (first | apply Kd.R_alloc | apply Kd.R_drewN | apply Kd.R_drew)); exact HO_4.out⟩, ⟨by (with_reducible repeat (first | apply Kd.R_alloc | apply Kd.R_drewN | apply Kd.R_drew)); exact Kd.R_mono HO_5.out (fun _ hk => ⟨hk.1.1, ⟨hk.2, hk.1.2⟩⟩)⟩, ⟨by (with_reducible repeat (first | refine blk_drewN ?_ _ | refine blk_drew ?_ | refine blk_alloc ?_ _)); exact BK241.out⟩, ⟨by repeat (first | (with_reducible first | exact HB.out | apply below_alloc | apply pw_below_drewN | apply below_drew1 | refine below_set ?_ GE241.out) | exact HB.out)⟩⟩
         ·rw [if_neg c24] at H
          exact absurd H (by simp)
        ·rw [if_neg c23] at H
         have c23b0 : decide (x6_2 < (x4_2.length : Int)) = false := decide_eq_false c23
         clear c23
         have H' := Aside0.mk H
         clear H
         obtain ⟨Ao30, co30, eo30⟩ := Kd.R_slice HO_4.out
         subst eo30
         go_wp2
         go_loopg [7, 8] k2 (fun kq v7 v8 w' => ∃ (x7_3 : List (S41)) (x8_3 : Int), v8 = .int .i64 x8_3 ∧ Aside0 (stratumlaw04_KindStart.l1 kq y246 t252 x7_3 x8_3 x242000_2 x242001_2 x242002_2 x242003_2 = some r) ∧ Aside0 (kq ≤ k2) ∧ Aside0 (Kd.R k41 41 w' w.heap.size (fun k_ => some k_ ≠ (v253 : Value).ownBlock ∧ some k_ ≠ (v7 : Value).ownBlock ∧ k_ ≠ gb241) (.slice Ao12 y246.length co12) y246) ∧ Aside0 (Kd.R k41 52 w' w.heap.size (fun k_ => some k_ ≠ ((.slice Ao12 y246.length co12) : Value).ownBlock ∧ some k_ ≠ (v7 : Value).ownBlock ∧ k_ ≠ gb241) v253 t252) ∧ Aside0 (KX k41 41 w' w.heap.size (fun k_ => some k_ ≠ ((.slice Ao12 y246.length co12) : Value).ownBlock ∧ some k_ ≠ (v253 : Value).ownBlock ∧ k_ ≠ gb241) v7 x7_3) ∧ Aside0 (w'.heap[gb241]? = some (.cells #[.int .i64 x242000_2, .int .i64 x242001_2, .string x242002_2, .int .i64 x242003_2] 41 (0, 0))) ∧ Aside0 (Below w.heap.size w w'))
         case atStart => exact ⟨(x4_2), (0), (by first | rfl | (simp; done) | (simp [*]; done)), H', ⟨Nat.le_refl _⟩, ⟨by (with_reducible repeat (first | apply Kd.R_alloc | apply Kd.R_drewN | apply Kd.R_drew)); exact Kd.R_mono HO_3.out (fun _ hk => ⟨hk.2.1, ⟨hk.1, hk.2.2⟩⟩)⟩, ⟨by (with_reducible repeat (first | apply Kd.R_alloc | apply Kd.R_drewN | apply Kd.R_drew)); exact HO_5.out⟩, ⟨52, (by (with_reducible repeat (first | apply Kd.R_alloc | apply Kd.R_drewN | apply Kd.R_drew)); exact HO_4.out), .inr ⟨_, _, by obtain ⟨_, h1_, h2_⟩ := Value.slice.inj FX250.out; rw [h2_, h1_]⟩⟩, ⟨by (with_reducible repeat (first | refine blk_drewN ?_ _ | refine blk_drew ?_ | refine blk_alloc ?_ _)); exact BK241.out⟩, ⟨by repeat (first | (with_reducible first | exact HB.out | apply below_alloc | apply pw_below_drewN | apply below_drew1 | refine below_set ?_ GE241.out) | exact HB.out)⟩⟩
         case round =>
          clear H'
          try clear c1
          try clear q1
          try clear c2
          try clear p2
          try clear q2
          try clear hx2
          try clear hf2
          try clear c3
          try clear c5
          try clear c5b0
          try clear c5b1
          try clear p6
          try clear c8
          try clear c9
          try clear q13
          try clear c17
          try clear c22
          try clear c23
          try clear c23b0
          try clear c24
          try clear c24b0
          try clear c25
          try clear p25
          try clear q25
          try clear hx25
          try clear hf25
          try clear c26
          try clear c28
          try clear hx28
          try clear hf28
          try clear hcz27_0
          try clear hcz27_1
          try clear hcz27_2
          try clear hcz27_3
          try clear hfz27_0
          try clear hfz27_1
          try clear hfz27_2
          try clear hfz27_3
          try clear hx25_0
          try clear hx25_1
          try clear hx25_2
          try clear hx25_3
          try clear hx28_0
          try clear hx28_1
          try clear hx28_2
          try clear hx28_3
          try clear p2
          try clear p25
          try clear q1
          try clear q13
          try clear q25
          obtain ⟨x7_3, x8_3, rfl, HA, HK3, HO_3, HO_5, HO_7, BK241, HB⟩ := hrel
          obtain ⟨ee7, HO_7r, FE7⟩ := HO_7.out
          clear HO_7
          have HO_7 := Aside0.mk HO_7r
          clear HO_7r
          cases gk with
          | zero => exact absurd HA.out (by simp [stratumlaw04_KindStart.l1])
          | succ k3 =>
           have H := HA.out
           clear HA
           simp only [stratumlaw04_KindStart.l1] at H
           by_cases c31 : x8_3 < 9
           ·rw [if_pos c31] at H
            have c31b0 : decide (x8_3 < 9) = true := decide_eq_true c31
            clear c31
            by_cases c32 : x7_3.length < 3518437208883
            ·rw [if_pos c32] at H
             have LMc32 := Aside0.mk c32
             clear c32
             obtain ⟨y258, hy258⟩ : ∃ y_ : List (S41), y_ = (x7_3 ++ [(⟨x242000_2, x242001_2, x242002_2, x242003_2⟩ : S41)]) := ⟨_, rfl⟩
             replace H : (stratumlaw04_KindStart.l1 k3 y246 t252 y258 (wrap64 (x8_3 + 1)) x242000_2 x242001_2 x242002_2 x242003_2) = some r := by first | (rw [hy258]; with_reducible exact H) | (have H2_ := (Option.bind_some _ _).symm.trans H; rw [hy258]; with_reducible exact H2_) | (have H2_ := (Option.bind_some _ _).symm.trans H; with_reducible exact H2_) | with_reducible exact H | (rw [hy258]; exact H) | exact H
             have Ny258 := Aside0.mk hy258
             clear hy258
             have H' := Aside0.mk H
             clear H
             have hcz33_0 : wr.cell? ⟨gb241, 0, none⟩ = some (.int .i64 x242000_2) := (blk_cell BK241.out 0).trans rfl
             have hcz33_1 : wr.cell? ⟨gb241, 1, none⟩ = some (.int .i64 x242001_2) := (blk_cell BK241.out 1).trans rfl
             have hcz33_2 : wr.cell? ⟨gb241, 2, none⟩ = some (.string x242002_2) := (blk_cell BK241.out 2).trans rfl
             have hcz33_3 : wr.cell? ⟨gb241, 3, none⟩ = some (.int .i64 x242003_2) := (blk_cell BK241.out 3).trans rfl
             have hfz33_0 := blk_frozen BK241.out 0
             have hfz33_1 := blk_frozen BK241.out 1
             have hfz33_2 := blk_frozen BK241.out 2
             have hfz33_3 := blk_frozen BK241.out 3
             go_wp2_with (first | ((with_reducible refine gate_builtin (b := .append) (xs := #[.tmp 42, .tmp 44]) rfl ?_); (try (refine gate_guard (by rfl) ?_; dsimp only)); at_builtin; refine R_append_full k41 (w0 := w) w.heap.size rfl (.tmp 42) (.tmp 44) 42 41 (.agg #[(.int .i64 0), (.int .i64 0), (.string ⟨#[]⟩), (.int .i64 0)]) 40 rfl Try.underlying42 info41 rfl (by decide) (by omega) u7 x7_3 (⟨x242000_2, x242001_2, x242002_2, x242003_2⟩ : S41) [.int .i64 x242000_2, .int .i64 x242001_2, .string x242002_2, .int .i64 x242003_2] (fun k_ => some k_ ≠ (.slice Ao12 y246.length co12 : Value).ownBlock ∧ some k_ ≠ (v253 : Value).ownBlock ∧ k_ ≠ gb241) (fun _ => False) rfl rfl ?aP (fun _ hk => hk.elim) ?aF ?aO ?aB ?aS ?aL FE7 ?_; (case aP => exact k41_mkM _ _ _ (⟨x242000_2, x242001_2, x242002_2, x242003_2⟩ : S41)); (case aB => exact (by repeat (first | (with_reducible first | exact HB.out | apply below_alloc | apply pw_below_drewN | apply below_drew1 | refine below_set ?_ GE241.out) | exact HB.out))); (case aF => exact (fun k_ hk => ⟨Kd.fresh' (Kd.R_lt (by (with_reducible repeat (first | apply Kd.R_alloc | apply Kd.R_drewN | apply Kd.R_drew)); exact HO_3.out)) k_ hk, Kd.fresh' (Kd.R_lt (by (with_reducible repeat (first | apply Kd.R_alloc | apply Kd.R_drewN | apply Kd.R_drew)); exact HO_5.out)) k_ hk, Kd.freshB (g := gb241) (o := .cells #[.int .i64 x242000_2, .int .i64 x242001_2, .string x242002_2, .int .i64 x242003_2] 41 (0, 0)) (by (with_reducible repeat (first | refine blk_drewN ?_ _ | refine blk_drew ?_ | refine blk_alloc ?_ _)); exact BK241.out) k_ hk⟩)); (case aO => exact (by (with_reducible repeat (first | apply Kd.R_alloc | apply Kd.R_drewN | apply Kd.R_drew)); exact HO_7.out)); (case aS => exact (below_size (by repeat (first | (with_reducible first | exact HB.out | apply below_alloc | apply pw_below_drewN | apply below_drew1 | refine below_set ?_ GE241.out) | exact HB.out)))); (case aL => have := LMc32.out; omega); intro v259 w34 ho hb hg hat; rw [← Ny258.out] at ho; have n0_ := Aside0.mk (Kd.R_after (ok := (fun k_ => some k_ ≠ (v253 : Value).ownBlock ∧ k_ ≠ gb241)) (by (with_reducible repeat (first | apply Kd.R_alloc | apply Kd.R_drewN | apply Kd.R_drew)); exact Kd.R_mono HO_3.out (fun _ hk => ⟨⟨hk.1, hk.2.2⟩, hk.2.1⟩)) hg hat); have n1_ := Aside0.mk (Kd.R_after (ok := (fun k_ => some k_ ≠ (.slice Ao12 y246.length co12 : Value).ownBlock ∧ k_ ≠ gb241)) (by (with_reducible repeat (first | apply Kd.R_alloc | apply Kd.R_drewN | apply Kd.R_drew)); exact Kd.R_mono HO_5.out (fun _ hk => ⟨⟨hk.1, hk.2.2⟩, hk.2.1⟩)) hg hat); have n2_ := Aside0.mk (blk_grown (g := gb241) (o := .cells #[.int .i64 x242000_2, .int .i64 x242001_2, .string x242002_2, .int .i64 x242003_2] 41 (0, 0)) (by (with_reducible repeat (first | refine blk_drewN ?_ _ | refine blk_drew ?_ | refine blk_alloc ?_ _)); exact BK241.out) hg (Kd.R_away HO_7.out (fun _ hk => hk.2.2))); have n3_ := Aside0.mk (hb); have n4_ := Aside0.mk (ho); clear HO_3; clear HO_5; clear BK241; clear HB; clear HO_7; have HO_3 := n0_; have HO_5 := n1_; have BK241 := n2_; have HB := n3_; have HO260 := n4_; clear n0_ n1_ n2_ n3_ n4_; clear ho hb hg hat))
             go_roundg k3
             case measure => have := HJ7.out; have := HK2.out; have := HK3.out; omega
             case rel => exact ⟨(y258), (wrap64 (x8_3 + 1)), (by first | rfl | (simp; done) | (simp [*]; done)), H', ⟨by have := HJ7.out; have := HK2.out; have := HK3.out; omega⟩, ⟨by (with_reducible repeat (first | apply Kd.R_alloc | apply Kd.R_drewN | apply Kd.R_drew)); exact Kd.R_mono HO_3.out (fun _ hk => ⟨hk.1.1, ⟨hk.2, hk.1.2⟩⟩)⟩, ⟨by (with_reducible repeat (first | apply Kd.R_alloc | apply Kd.R_drewN | apply Kd.R_drew)); exact Kd.R_mono HO_5.out (fun _ hk => ⟨hk.1.1, ⟨hk.2, hk.1.2⟩⟩)⟩, ⟨41, (by (with_reducible repeat (first | apply Kd.R_alloc | apply Kd.R_drewN | apply Kd.R_drew)); exact HO260.out), .inl rfl⟩, ⟨by (with_reducible repeat (first | refine blk_drewN ?_ _ | refine blk_drew ?_ | refine blk_alloc ?_ _)); exact BK241.out⟩, ⟨by repeat (first | (with_reducible first | exact HB.out | apply below_alloc | apply pw_below_drewN | apply below_drew1 | refine below_set ?_ GE241.out) | exact HB.out)⟩⟩
            ·rw [if_neg c32] at H
             exact absurd H (by simp)
           ·rw [if_neg c31] at H
            have c31b0 : decide (x8_3 < 9) = false := decide_eq_false c31
            clear c31
            have HC35 := Aside0.mk H
            clear H
            go_upto_region 17 with (fail)
            go_cut [60] (fun v60 wc => ∃ (kq : Nat) (x60_34 : Bool), v60 = .bool x60_34 ∧ Aside0 (stratumlaw04_KindStart.j3 kq y246 x60_34 = some r) ∧ Aside0 (kq ≤ k3) ∧ Aside0 (Kd.R k41 41 wc w.heap.size (fun k_ => k_ ≠ gb241) (.slice Ao12 y246.length co12) y246) ∧ Aside0 (wc.heap[gb241]? = some (.cells #[.int .i64 x242000_2, .int .i64 x242001_2, .string x242002_2, .int .i64 x242003_2] 41 (0, 0))) ∧ Aside0 (Below w.heap.size w wc))
            case first =>
             have H := HC35.out
             clear HC35
             replace H := Option.bind_eq_some_iff.mp H
             obtain ⟨t261, A360, H⟩ := H
             replace H : (if t261 = true then ((kind_Entries.f).bind fun t262 => ((stratumlaw04_same.f k3 t262 y246).bind fun t265 => (if t265 = true then (stratumlaw04_KindStart.j3 k3 y246 ((x7_3.length : Int) != 14)) else (stratumlaw04_KindStart.j3 k3 y246 true)))) else (stratumlaw04_KindStart.j3 k3 y246 true)) = some r := H
             have A36 := Aside0.mk A360
             clear A360
             by_cases c37 : t261 = true
             ·subst c37
              have H1 : ((kind_Entries.f).bind fun t262 => ((stratumlaw04_same.f k3 t262 y246).bind fun t265 => (if t265 = true then (stratumlaw04_KindStart.j3 k3 y246 ((x7_3.length : Int) != 14)) else (stratumlaw04_KindStart.j3 k3 y246 true)))) = some r := by rw [if_pos rfl] at H; exact H
              clear H
              have H := H1
              clear H1
              replace H := Option.bind_eq_some_iff.mp H
              obtain ⟨t262, A380, H⟩ := H
              replace H : ((stratumlaw04_same.f k3 t262 y246).bind fun t265 => (if t265 = true then (stratumlaw04_KindStart.j3 k3 y246 ((x7_3.length : Int) != 14)) else (stratumlaw04_KindStart.j3 k3 y246 true))) = some r := H
              have A38 := Aside0.mk A380
              clear A380
              replace H := Option.bind_eq_some_iff.mp H
              obtain ⟨t265, A390, H⟩ := H
              replace H : (if t265 = true then (stratumlaw04_KindStart.j3 k3 y246 ((x7_3.length : Int) != 14)) else (stratumlaw04_KindStart.j3 k3 y246 true)) = some r := H
              have A39 := Aside0.mk A390
              clear A390
              by_cases c40 : t265 = true
              ·subst c40
               have H1 : (stratumlaw04_KindStart.j3 k3 y246 ((x7_3.length : Int) != 14)) = some r := by rw [if_pos rfl] at H; exact H
               clear H
               have H := H1
               clear H1
               have H' := Aside0.mk H
               clear H
               obtain ⟨Ao41, co41, eo41⟩ := Kd.R_slice HO_5.out
               subst eo41
               go_wp2_with (first | ((with_reducible refine gate_callee (f := 26) rfl ?_); refine goesL_ (some 48) rfl rfl Try.func26 (by kernel_rfl) rfl #[.slice Ao41 t252.length co41, .slice Ao12 y246.length co12] rfl (by (try simp only [List.map_toArray, List.map_cons, List.map_nil]); first | done | rfl | (simp only [List.length_drop, List.length_take]; rfl)) ?_; (with_reducible refine (stratumlaw04_same.calls k3 _ _ t252 _ _ y246 true _ ?side1 ?side2 ?side3 ?side4 A36.out).mono ?_); (case side1 => repeat (first | exact (Kd.R_reads' HO_5.out).2.2 | (with_reducible refine Kd.C_alloc ?_ _) | (with_reducible refine Kd.C_drewN ?_ _) | (with_reducible refine Kd.C_drew ?_))); (case side2 => exact (Kd.R_reads' HO_5.out).2.1); (case side3 => repeat (first | exact (Kd.R_reads' HO_3.out).2.2 | (with_reducible refine Kd.C_alloc ?_ _) | (with_reducible refine Kd.C_drewN ?_ _) | (with_reducible refine Kd.C_drew ?_))); (case side4 => exact (Kd.R_reads' HO_3.out).2.1); rintro e w' ⟨rfl, ⟨nd, rfl⟩⟩; refine ⟨_, rfl, ?_⟩) | (go_at_call 25; (with_reducible refine (kind_Entries.calls  t262 _ A38.out).mono ?_); rintro e w42 ⟨v263, rfl, ⟨ho0, ⟨Af263, ef263⟩⟩, hb⟩; have FX263 := Aside0.mk ef263; clear ef263; have n0_ := Aside0.mk (Kd.R_elder' (by (with_reducible repeat (first | apply Kd.R_alloc | apply Kd.R_drewN | apply Kd.R_drew)); exact HO_3.out) (Kd.R_base ho0) hb); have n1_ := Aside0.mk (Kd.R_elder' (by (with_reducible repeat (first | apply Kd.R_alloc | apply Kd.R_drewN | apply Kd.R_drew)); exact HO_5.out) (Kd.R_base ho0) hb); have n2_ := Aside0.mk (Kd.R_elder' (by (with_reducible repeat (first | apply Kd.R_alloc | apply Kd.R_drewN | apply Kd.R_drew)); exact HO_7.out) (Kd.R_base ho0) hb); have n3_ := Aside0.mk (Kd.R_lower (Kd.R_newB (Kd.R_new' (Kd.R_new' (Kd.R_new' ho0 (Kd.R_lt (by (with_reducible repeat (first | apply Kd.R_alloc | apply Kd.R_drewN | apply Kd.R_drew)); exact HO_3.out))) (Kd.R_lt (by (with_reducible repeat (first | apply Kd.R_alloc | apply Kd.R_drewN | apply Kd.R_drew)); exact HO_5.out))) (Kd.R_lt (by (with_reducible repeat (first | apply Kd.R_alloc | apply Kd.R_drewN | apply Kd.R_drew)); exact HO_7.out))) (g := gb241) (o := .cells #[.int .i64 x242000_2, .int .i64 x242001_2, .string x242002_2, .int .i64 x242003_2] 41 (0, 0)) (by (with_reducible repeat (first | refine blk_drewN ?_ _ | refine blk_drew ?_ | refine blk_alloc ?_ _)); exact BK241.out)) (below_size (by repeat (first | (with_reducible first | exact HB.out | apply below_alloc | apply pw_below_drewN | apply below_drew1 | refine below_set ?_ GE241.out) | exact HB.out)))); have n4_ := Aside0.mk (blk_below (g := gb241) (o := .cells #[.int .i64 x242000_2, .int .i64 x242001_2, .string x242002_2, .int .i64 x242003_2] 41 (0, 0)) (by (with_reducible repeat (first | refine blk_drewN ?_ _ | refine blk_drew ?_ | refine blk_alloc ?_ _)); exact BK241.out) hb); have n5_ := Aside0.mk (below_step (by repeat (first | (with_reducible first | exact HB.out | apply below_alloc | apply pw_below_drewN | apply below_drew1 | refine below_set ?_ GE241.out) | exact HB.out)) hb); clear HO_3; clear HO_5; clear HO_7; clear BK241; clear HB; have HO_3 := n0_; have HO_5 := n1_; have HO_7 := n2_; have HO264 := n3_; have BK241 := n4_; have HB := n5_; clear n0_ n1_ n2_ n3_ n4_ n5_; (try clear hb); (try clear hb2); (try clear hk); (try clear hi); (try clear ho0); obtain ⟨Ao43, co43, eo43⟩ := Kd.R_slice HO264.out; subst eo43) | (go_at_call 26; (with_reducible refine (stratumlaw04_same.calls k3 _ _ t262 _ _ y246 true _ ?side1 ?side2 ?side3 ?side4 A39.out).mono ?_); (case side1 => repeat (first | exact (Kd.R_reads' HO264.out).2.2 | (with_reducible refine Kd.C_alloc ?_ _) | (with_reducible refine Kd.C_drewN ?_ _) | (with_reducible refine Kd.C_drew ?_))); (case side2 => exact (Kd.R_reads' HO264.out).2.1); (case side3 => repeat (first | exact (Kd.R_reads' HO_3.out).2.2 | (with_reducible refine Kd.C_alloc ?_ _) | (with_reducible refine Kd.C_drewN ?_ _) | (with_reducible refine Kd.C_drew ?_))); (case side4 => exact (Kd.R_reads' HO_3.out).2.1); rintro e w' ⟨rfl, ⟨nd, rfl⟩⟩; obtain ⟨Ao44, co44, eo44⟩ := Kd.R_slice HO_7.out; subst eo44))
               go_meet
               case rel => exact ⟨_, (((x7_3.length : Int) != 14)), (by first | rfl | (simp; done) | (simp [*]; done)), H', ⟨by have := HJ7.out; have := HK2.out; have := HK3.out; first | omega | exact Nat.le_refl _⟩, ⟨by (with_reducible repeat (first | apply Kd.R_alloc | apply Kd.R_drewN | apply Kd.R_drew)); exact Kd.R_mono HO_3.out (fun _ hk => hk.1.2.2)⟩, ⟨by (with_reducible repeat (first | refine blk_drewN ?_ _ | refine blk_drew ?_ | refine blk_alloc ?_ _)); exact BK241.out⟩, ⟨by repeat (first | (with_reducible first | exact HB.out | apply below_alloc | apply pw_below_drewN | apply below_drew1 | refine below_set ?_ GE241.out) | exact HB.out)⟩⟩
              ·replace c40 := Bool.eq_false_iff.mpr c40
               subst c40
               have H1 : (stratumlaw04_KindStart.j3 k3 y246 true) = some r := by rw [if_neg (show ¬ (false = true) by decide)] at H; exact H
               clear H
               have H := H1
               clear H1
               have H' := Aside0.mk H
               clear H
               obtain ⟨Ao45, co45, eo45⟩ := Kd.R_slice HO_5.out
               subst eo45
               go_wp2_with (first | ((with_reducible refine gate_callee (f := 26) rfl ?_); refine goesL_ (some 48) rfl rfl Try.func26 (by kernel_rfl) rfl #[.slice Ao45 t252.length co45, .slice Ao12 y246.length co12] rfl (by (try simp only [List.map_toArray, List.map_cons, List.map_nil]); first | done | rfl | (simp only [List.length_drop, List.length_take]; rfl)) ?_; (with_reducible refine (stratumlaw04_same.calls k3 _ _ t252 _ _ y246 true _ ?side1 ?side2 ?side3 ?side4 A36.out).mono ?_); (case side1 => repeat (first | exact (Kd.R_reads' HO_5.out).2.2 | (with_reducible refine Kd.C_alloc ?_ _) | (with_reducible refine Kd.C_drewN ?_ _) | (with_reducible refine Kd.C_drew ?_))); (case side2 => exact (Kd.R_reads' HO_5.out).2.1); (case side3 => repeat (first | exact (Kd.R_reads' HO_3.out).2.2 | (with_reducible refine Kd.C_alloc ?_ _) | (with_reducible refine Kd.C_drewN ?_ _) | (with_reducible refine Kd.C_drew ?_))); (case side4 => exact (Kd.R_reads' HO_3.out).2.1); rintro e w' ⟨rfl, ⟨nd, rfl⟩⟩; refine ⟨_, rfl, ?_⟩) | (go_at_call 25; (with_reducible refine (kind_Entries.calls  t262 _ A38.out).mono ?_); rintro e w46 ⟨v263, rfl, ⟨ho0, ⟨Af263, ef263⟩⟩, hb⟩; have FX263 := Aside0.mk ef263; clear ef263; have n0_ := Aside0.mk (Kd.R_elder' (by (with_reducible repeat (first | apply Kd.R_alloc | apply Kd.R_drewN | apply Kd.R_drew)); exact HO_3.out) (Kd.R_base ho0) hb); have n1_ := Aside0.mk (Kd.R_elder' (by (with_reducible repeat (first | apply Kd.R_alloc | apply Kd.R_drewN | apply Kd.R_drew)); exact HO_5.out) (Kd.R_base ho0) hb); have n2_ := Aside0.mk (Kd.R_elder' (by (with_reducible repeat (first | apply Kd.R_alloc | apply Kd.R_drewN | apply Kd.R_drew)); exact HO_7.out) (Kd.R_base ho0) hb); have n3_ := Aside0.mk (Kd.R_lower (Kd.R_newB (Kd.R_new' (Kd.R_new' (Kd.R_new' ho0 (Kd.R_lt (by (with_reducible repeat (first | apply Kd.R_alloc | apply Kd.R_drewN | apply Kd.R_drew)); exact HO_3.out))) (Kd.R_lt (by (with_reducible repeat (first | apply Kd.R_alloc | apply Kd.R_drewN | apply Kd.R_drew)); exact HO_5.out))) (Kd.R_lt (by (with_reducible repeat (first | apply Kd.R_alloc | apply Kd.R_drewN | apply Kd.R_drew)); exact HO_7.out))) (g := gb241) (o := .cells #[.int .i64 x242000_2, .int .i64 x242001_2, .string x242002_2, .int .i64 x242003_2] 41 (0, 0)) (by (with_reducible repeat (first | refine blk_drewN ?_ _ | refine blk_drew ?_ | refine blk_alloc ?_ _)); exact BK241.out)) (below_size (by repeat (first | (with_reducible first | exact HB.out | apply below_alloc | apply pw_below_drewN | apply below_drew1 | refine below_set ?_ GE241.out) | exact HB.out)))); have n4_ := Aside0.mk (blk_below (g := gb241) (o := .cells #[.int .i64 x242000_2, .int .i64 x242001_2, .string x242002_2, .int .i64 x242003_2] 41 (0, 0)) (by (with_reducible repeat (first | refine blk_drewN ?_ _ | refine blk_drew ?_ | refine blk_alloc ?_ _)); exact BK241.out) hb); have n5_ := Aside0.mk (below_step (by repeat (first | (with_reducible first | exact HB.out | apply below_alloc | apply pw_below_drewN | apply below_drew1 | refine below_set ?_ GE241.out) | exact HB.out)) hb); clear HO_3; clear HO_5; clear HO_7; clear BK241; clear HB; have HO_3 := n0_; have HO_5 := n1_; have HO_7 := n2_; have HO264 := n3_; have BK241 := n4_; have HB := n5_; clear n0_ n1_ n2_ n3_ n4_ n5_; (try clear hb); (try clear hb2); (try clear hk); (try clear hi); (try clear ho0); obtain ⟨Ao47, co47, eo47⟩ := Kd.R_slice HO264.out; subst eo47) | (go_at_call 26; (with_reducible refine (stratumlaw04_same.calls k3 _ _ t262 _ _ y246 false _ ?side1 ?side2 ?side3 ?side4 A39.out).mono ?_); (case side1 => repeat (first | exact (Kd.R_reads' HO264.out).2.2 | (with_reducible refine Kd.C_alloc ?_ _) | (with_reducible refine Kd.C_drewN ?_ _) | (with_reducible refine Kd.C_drew ?_))); (case side2 => exact (Kd.R_reads' HO264.out).2.1); (case side3 => repeat (first | exact (Kd.R_reads' HO_3.out).2.2 | (with_reducible refine Kd.C_alloc ?_ _) | (with_reducible refine Kd.C_drewN ?_ _) | (with_reducible refine Kd.C_drew ?_))); (case side4 => exact (Kd.R_reads' HO_3.out).2.1); rintro e w' ⟨rfl, ⟨nd, rfl⟩⟩))
               go_meet
               case rel => exact ⟨_, (true), (by first | rfl | (simp; done) | (simp [*]; done)), H', ⟨by have := HJ7.out; have := HK2.out; have := HK3.out; first | omega | exact Nat.le_refl _⟩, ⟨by (with_reducible repeat (first | apply Kd.R_alloc | apply Kd.R_drewN | apply Kd.R_drew)); exact Kd.R_mono HO_3.out (fun _ hk => hk.1.2.2)⟩, ⟨by (with_reducible repeat (first | refine blk_drewN ?_ _ | refine blk_drew ?_ | refine blk_alloc ?_ _)); exact BK241.out⟩, ⟨by repeat (first | (with_reducible first | exact HB.out | apply below_alloc | apply pw_below_drewN | apply below_drew1 | refine below_set ?_ GE241.out) | exact HB.out)⟩⟩
             ·replace c37 := Bool.eq_false_iff.mpr c37
              subst c37
              have H1 : (stratumlaw04_KindStart.j3 k3 y246 true) = some r := by rw [if_neg (show ¬ (false = true) by decide)] at H; exact H
              clear H
              have H := H1
              clear H1
              have H' := Aside0.mk H
              clear H
              obtain ⟨Ao48, co48, eo48⟩ := Kd.R_slice HO_5.out
              subst eo48
              go_wp2_with (first | ((with_reducible refine gate_callee (f := 26) rfl ?_); refine goesL_ (some 48) rfl rfl Try.func26 (by kernel_rfl) rfl #[.slice Ao48 t252.length co48, .slice Ao12 y246.length co12] rfl (by (try simp only [List.map_toArray, List.map_cons, List.map_nil]); first | done | rfl | (simp only [List.length_drop, List.length_take]; rfl)) ?_; (with_reducible refine (stratumlaw04_same.calls k3 _ _ t252 _ _ y246 false _ ?side1 ?side2 ?side3 ?side4 A36.out).mono ?_); (case side1 => repeat (first | exact (Kd.R_reads' HO_5.out).2.2 | (with_reducible refine Kd.C_alloc ?_ _) | (with_reducible refine Kd.C_drewN ?_ _) | (with_reducible refine Kd.C_drew ?_))); (case side2 => exact (Kd.R_reads' HO_5.out).2.1); (case side3 => repeat (first | exact (Kd.R_reads' HO_3.out).2.2 | (with_reducible refine Kd.C_alloc ?_ _) | (with_reducible refine Kd.C_drewN ?_ _) | (with_reducible refine Kd.C_drew ?_))); (case side4 => exact (Kd.R_reads' HO_3.out).2.1); rintro e w' ⟨rfl, ⟨nd, rfl⟩⟩; refine ⟨_, rfl, ?_⟩))
              go_meet
              case rel => exact ⟨_, (true), (by first | rfl | (simp; done) | (simp [*]; done)), H', ⟨by have := HJ7.out; have := HK2.out; have := HK3.out; first | omega | exact Nat.le_refl _⟩, ⟨by (with_reducible repeat (first | apply Kd.R_alloc | apply Kd.R_drewN | apply Kd.R_drew)); exact Kd.R_mono HO_3.out (fun _ hk => hk.2.2)⟩, ⟨by (with_reducible repeat (first | refine blk_drewN ?_ _ | refine blk_drew ?_ | refine blk_alloc ?_ _)); exact BK241.out⟩, ⟨by repeat (first | (with_reducible first | exact HB.out | apply below_alloc | apply pw_below_drewN | apply below_drew1 | refine below_set ?_ GE241.out) | exact HB.out)⟩⟩
            case rest =>
             clear HC35
             try clear c1
             try clear q1
             try clear c2
             try clear p2
             try clear q2
             try clear hx2
             try clear hf2
             try clear c3
             try clear c4
             try clear c5
             try clear c5b0
             try clear c5b1
             try clear p6
             try clear c8
             try clear c9
             try clear q13
             try clear c17
             try clear c22
             try clear c23
             try clear c23b0
             try clear c24
             try clear c24b0
             try clear c25
             try clear p25
             try clear q25
             try clear hx25
             try clear hf25
             try clear c26
             try clear c28
             try clear hx28
             try clear hf28
             try clear c31
             try clear c31b0
             try clear c32
             try clear c37
             try clear c40
             try clear hcz27_0
             try clear hcz27_1
             try clear hcz27_2
             try clear hcz27_3
             try clear hcz33_0
             try clear hcz33_1
             try clear hcz33_2
             try clear hcz33_3
             try clear hfz27_0
             try clear hfz27_1
             try clear hfz27_2
             try clear hfz27_3
             try clear hfz33_0
             try clear hfz33_1
             try clear hfz33_2
             try clear hfz33_3
             try clear hx25_0
             try clear hx25_1
             try clear hx25_2
             try clear hx25_3
             try clear hx28_0
             try clear hx28_1
             try clear hx28_2
             try clear hx28_3
             try clear p2
             try clear p25
             try clear p6
             try clear q1
             try clear q13
             try clear q2
             try clear q25
             obtain ⟨kq, x60_34, rfl, HA, HJ34, HO_3, BK241, HB⟩ := hcut
             cases kq with
             | zero => exact absurd HA.out (by simp [stratumlaw04_KindStart.j3])
             | succ kj34 =>
              have H := HA.out
              clear HA
              simp only [stratumlaw04_KindStart.j3] at H
              by_cases c49 : x60_34 = true
              ·subst c49
               have H1 : (some false) = some r := by rw [if_pos rfl] at H; exact H
               clear H
               have H := H1
               clear H1
               exact absurd ((Option.some.inj H).trans hr_.out) (by simp)
              ·replace c49 := Bool.eq_false_iff.mpr c49
               subst c49
               have H1 : (stratumlaw04_KindStart.l2 kj34 y246 0 0) = some r := by rw [if_neg (show ¬ (false = true) by decide)] at H; exact H
               clear H
               have H := H1
               clear H1
               have H' := Aside0.mk H
               clear H
               go_wp2
               go_loopg [9, 10] kj34 (fun kq v9 v10 w' => ∃ (x9_5 : Int) (x10_5 : Int), v9 = .int .i64 x9_5 ∧ v10 = .int .i64 x10_5 ∧ Aside0 (stratumlaw04_KindStart.l2 kq y246 x9_5 x10_5 = some r) ∧ Aside0 (kq ≤ kj34) ∧ Aside0 (Kd.R k41 41 w' w.heap.size (fun k_ => k_ ≠ gb241) (.slice Ao12 y246.length co12) y246) ∧ Aside0 (w'.heap[gb241]? = some (.cells #[.int .i64 x242000_2, .int .i64 x242001_2, .string x242002_2, .int .i64 x242003_2] 41 (0, 0))) ∧ Aside0 (Below w.heap.size w w'))
               case atStart => exact ⟨(0), (0), (by first | rfl | (simp; done) | (simp [*]; done)), (by first | rfl | (simp; done) | (simp [*]; done)), H', ⟨Nat.le_refl _⟩, ⟨by (with_reducible repeat (first | apply Kd.R_alloc | apply Kd.R_drewN | apply Kd.R_drew)); exact HO_3.out⟩, ⟨by (with_reducible repeat (first | refine blk_drewN ?_ _ | refine blk_drew ?_ | refine blk_alloc ?_ _)); exact BK241.out⟩, ⟨by repeat (first | (with_reducible first | exact HB.out | apply below_alloc | apply pw_below_drewN | apply below_drew1 | refine below_set ?_ GE241.out) | exact HB.out)⟩⟩
               case round =>
                clear H'
                try clear c1
                try clear q1
                try clear c2
                try clear p2
                try clear q2
                try clear hx2
                try clear hf2
                try clear c3
                try clear c4
                try clear c5
                try clear c5b0
                try clear c5b1
                try clear p6
                try clear c8
                try clear c9
                try clear q13
                try clear c17
                try clear c22
                try clear c23
                try clear c23b0
                try clear c24
                try clear c24b0
                try clear c25
                try clear p25
                try clear q25
                try clear hx25
                try clear hf25
                try clear c26
                try clear c28
                try clear hx28
                try clear hf28
                try clear c31
                try clear c31b0
                try clear c32
                try clear c37
                try clear c40
                try clear c49
                try clear hcz27_0
                try clear hcz27_1
                try clear hcz27_2
                try clear hcz27_3
                try clear hcz33_0
                try clear hcz33_1
                try clear hcz33_2
                try clear hcz33_3
                try clear hfz27_0
                try clear hfz27_1
                try clear hfz27_2
                try clear hfz27_3
                try clear hfz33_0
                try clear hfz33_1
                try clear hfz33_2
                try clear hfz33_3
                try clear hx25_0
                try clear hx25_1
                try clear hx25_2
                try clear hx25_3
                try clear hx28_0
                try clear hx28_1
                try clear hx28_2
                try clear hx28_3
                try clear p2
                try clear p25
                try clear p6
                try clear q1
                try clear q13
                try clear q2
                try clear q25
                obtain ⟨x9_5, x10_5, rfl, rfl, HA, HK5, HO_3, BK241, HB⟩ := hrel
                cases gk with
                | zero => exact absurd HA.out (by simp [stratumlaw04_KindStart.l2])
                | succ k5 =>
                 have H := HA.out
                 clear HA
                 simp only [stratumlaw04_KindStart.l2] at H
                 by_cases c50 : x10_5 < (y246.length : Int)
                 ·rw [if_pos c50] at H
                  have c50b0 : decide (x10_5 < (y246.length : Int)) = true := decide_eq_true c50
                  clear c50
                  by_cases c51 : 0 ≤ x10_5
                  ·rw [if_pos c51] at H
                   have c51b0 : decide (0 ≤ x10_5) = true := decide_eq_true c51
                   clear c51
                   replace H := Option.bind_eq_some_iff.mp H
                   obtain ⟨t267, A520, H⟩ := H
                   replace H : (if t267.toList = ((rd_T41 y246 x10_5).f2).toList then ((kind_Of.f ((rd_T41 y246 x10_5).f2)).bind fun t270 => (if t270 = ((rd_T41 y246 x10_5).f1) then (stratumlaw04_KindStart.l2 k5 y246 (wrap64 (x9_5 + ((rd_T41 y246 x10_5).f3))) (wrap64 (x10_5 + 1))) else (some false))) else (some false)) = some r := H
                   have A52 := Aside0.mk A520
                   clear A520
                   by_cases c53 : t267.toList = ((rd_T41 y246 x10_5).f2).toList
                   ·rw [if_pos c53] at H
                    have c53b0 : (t267.toList == ((rd_T41 y246 x10_5).f2).toList) = true := beq_iff_eq.mpr c53
                    have c53b1 : (t267.toList != ((rd_T41 y246 x10_5).f2).toList) = false := bne_eq_false_iff_eq.mpr c53
                    clear c53
                    replace H := Option.bind_eq_some_iff.mp H
                    obtain ⟨t270, A540, H⟩ := H
                    replace H : (if t270 = ((rd_T41 y246 x10_5).f1) then (stratumlaw04_KindStart.l2 k5 y246 (wrap64 (x9_5 + ((rd_T41 y246 x10_5).f3))) (wrap64 (x10_5 + 1))) else (some false)) = some r := H
                    have A54 := Aside0.mk A540
                    clear A540
                    by_cases c55 : t270 = ((rd_T41 y246 x10_5).f1)
                    ·rw [if_pos c55] at H
                     have c55b0 : (t270 == ((rd_T41 y246 x10_5).f1)) = true := beq_iff_eq.mpr c55
                     have c55b1 : (t270 != ((rd_T41 y246 x10_5).f1)) = false := bne_eq_false_iff_eq.mpr c55
                     clear c55
                     have H' := Aside0.mk H
                     clear H
                     try go_wp2
                     have n0_ := Aside0.mk (Kd.R_drew HO_3.out)
                     have n1_ := Aside0.mk (blk_drew BK241.out)
                     have n2_ := Aside0.mk (below_drew1 HB.out)
                     clear HO_3
                     clear BK241
                     clear HB
                     have HO_3 := n0_
                     have BK241 := n1_
                     have HB := n2_
                     clear n0_ n1_ n2_
                     have p266 : 0 ≤ (x10_5 : Int) := of_decide_eq_true (by first | (with_reducible assumption) | assumption)
                     have q266 : x10_5 < (y246.length : Int) := of_decide_eq_true (by first | (with_reducible assumption) | assumption)
                     obtain ⟨ad266, e266, hx266_0, hx266_1, hx266_2, hx266_3⟩ := at_T41 (Kd.R_reads' HO_3.out).2.2 x10_5 p266 q266
                     cases e266
                     replace p266 := eq_true p266
                     replace q266 := eq_true q266
                     have p268 : 0 ≤ (x10_5 : Int) := of_decide_eq_true (by first | (with_reducible assumption) | assumption)
                     have q268 : x10_5 < (y246.length : Int) := of_decide_eq_true (by first | (with_reducible assumption) | assumption)
                     obtain ⟨ad268, e268, hx268_0, hx268_1, hx268_2, hx268_3⟩ := at_T41 (Kd.R_reads' HO_3.out).2.2 x10_5 p268 q268
                     obtain rfl : ad266 = ad268 := (by injection e268)
                     replace p268 := eq_true p268
                     replace q268 := eq_true q268
                     have p269 : 0 ≤ (x10_5 : Int) := of_decide_eq_true (by first | (with_reducible assumption) | assumption)
                     have q269 : x10_5 < (y246.length : Int) := of_decide_eq_true (by first | (with_reducible assumption) | assumption)
                     obtain ⟨ad269, e269, hx269_0, hx269_1, hx269_2, hx269_3⟩ := at_T41 (Kd.R_reads' HO_3.out).2.2 x10_5 p269 q269
                     obtain rfl : ad266 = ad269 := (by injection e269)
                     replace p269 := eq_true p269
                     replace q269 := eq_true q269
                     have p271 : 0 ≤ (x10_5 : Int) := of_decide_eq_true (by first | (with_reducible assumption) | assumption)
                     have q271 : x10_5 < (y246.length : Int) := of_decide_eq_true (by first | (with_reducible assumption) | assumption)
                     obtain ⟨ad271, e271, hx271_0, hx271_1, hx271_2, hx271_3⟩ := at_T41 (Kd.R_reads' HO_3.out).2.2 x10_5 p271 q271
                     obtain rfl : ad266 = ad271 := (by injection e271)
                     replace p271 := eq_true p271
                     replace q271 := eq_true q271
                     refine start_ (n := 26) (S := fun w' => w'.cell? (ad266.add ((x10_5).toNat * 4)) = some (.int .i64 ((rd_T41 y246 x10_5).f0)) ∧ w'.cell? ⟨(ad266.add ((x10_5).toNat * 4)).block, (ad266.add ((x10_5).toNat * 4)).off + 1, none⟩ = some (.int .i64 ((rd_T41 y246 x10_5).f1)) ∧ w'.cell? ⟨(ad266.add ((x10_5).toNat * 4)).block, (ad266.add ((x10_5).toNat * 4)).off + 2, none⟩ = some (.string ((rd_T41 y246 x10_5).f2)) ∧ w'.cell? ⟨(ad266.add ((x10_5).toNat * 4)).block, (ad266.add ((x10_5).toNat * 4)).off + 3, none⟩ = some (.int .i64 ((rd_T41 y246 x10_5).f3)) ∧ w'.cell? (ad266.add ((x10_5).toNat * 4)) = some (.int .i64 ((rd_T41 y246 x10_5).f0)) ∧ w'.cell? ⟨(ad266.add ((x10_5).toNat * 4)).block, (ad266.add ((x10_5).toNat * 4)).off + 1, none⟩ = some (.int .i64 ((rd_T41 y246 x10_5).f1)) ∧ w'.cell? ⟨(ad266.add ((x10_5).toNat * 4)).block, (ad266.add ((x10_5).toNat * 4)).off + 2, none⟩ = some (.string ((rd_T41 y246 x10_5).f2)) ∧ w'.cell? ⟨(ad266.add ((x10_5).toNat * 4)).block, (ad266.add ((x10_5).toNat * 4)).off + 3, none⟩ = some (.int .i64 ((rd_T41 y246 x10_5).f3)) ∧ w'.cell? (ad266.add ((x10_5).toNat * 4)) = some (.int .i64 ((rd_T41 y246 x10_5).f0)) ∧ w'.cell? ⟨(ad266.add ((x10_5).toNat * 4)).block, (ad266.add ((x10_5).toNat * 4)).off + 1, none⟩ = some (.int .i64 ((rd_T41 y246 x10_5).f1)) ∧ w'.cell? ⟨(ad266.add ((x10_5).toNat * 4)).block, (ad266.add ((x10_5).toNat * 4)).off + 2, none⟩ = some (.string ((rd_T41 y246 x10_5).f2)) ∧ w'.cell? ⟨(ad266.add ((x10_5).toNat * 4)).block, (ad266.add ((x10_5).toNat * 4)).off + 3, none⟩ = some (.int .i64 ((rd_T41 y246 x10_5).f3)) ∧ w'.cell? (ad266.add ((x10_5).toNat * 4)) = some (.int .i64 ((rd_T41 y246 x10_5).f0)) ∧ w'.cell? ⟨(ad266.add ((x10_5).toNat * 4)).block, (ad266.add ((x10_5).toNat * 4)).off + 1, none⟩ = some (.int .i64 ((rd_T41 y246 x10_5).f1)) ∧ w'.cell? ⟨(ad266.add ((x10_5).toNat * 4)).block, (ad266.add ((x10_5).toNat * 4)).off + 2, none⟩ = some (.string ((rd_T41 y246 x10_5).f2)) ∧ w'.cell? ⟨(ad266.add ((x10_5).toNat * 4)).block, (ad266.add ((x10_5).toNat * 4)).off + 3, none⟩ = some (.int .i64 ((rd_T41 y246 x10_5).f3))) (ds := []) ⟨mk_ 26 0⟩ (by kernel_rfl) rfl rfl ⟨hx266_0, hx266_1, hx266_2, hx266_3, hx268_0, hx268_1, hx268_2, hx268_3, hx269_0, hx269_1, hx269_2, hx269_3, hx271_0, hx271_1, hx271_2, hx271_3⟩ (fun hHeld => ?_); refine with_tabW stratumlaw04_KindStart.tab23 stratumlaw04_KindStart.bits23 (fun HT_ HW_ => ?_)
                     generalize wr.drew = w56 at HO_3 BK241 HB hx266_0 hx266_1 hx266_2 hx266_3 hx268_0 hx268_1 hx268_2 hx268_3 hx269_0 hx269_1 hx269_2 hx269_3 hx271_0 hx271_1 hx271_2 hx271_3 hHeld ⊢
                     refine pure_ (i := 0) (N := some 67) (v := ?_) (a' := ?_) ⟨mk_ 26 1⟩ rfl rfl (any_of HT_.out (by kernel_rfl)) (fun _ _ _ h => h) (Or.inl ⟨by rfl, ?_⟩) ?_ ?_
                     rotate_left
                     ·intro w'
                      go_simp
                      with_reducible rfl
                     rotate_left
                     ·simp only [Act.put, List.setIfInBounds_toArray, List.set_cons_zero, List.set_cons_succ, i64_w, i32_w]
                      rfl
                     refine pure_ (i := 1) (N := some 68) (v := ?_) (a' := ?_) ⟨mk_ 26 3⟩ rfl rfl (any_of HT_.out (by kernel_rfl)) (fun _ _ _ h => h) (Or.inl ⟨by rfl, ?_⟩) ?_ ?_
                     rotate_left
                     ·intro w'
                      go_simp
                      with_reducible rfl
                     rotate_left
                     ·simp only [Act.put, List.setIfInBounds_toArray, List.set_cons_zero, List.set_cons_succ, i64_w, i32_w]
                      rfl
                     refine pure_ (i := 2) (N := some 69) (v := ?_) (a' := ?_) ⟨mk_ 26 7⟩ rfl rfl (any_of HT_.out (by kernel_rfl)) (fun _ _ _ h => h) (Or.inl ⟨by rfl, ?_⟩) ?_ ?_
                     rotate_left
                     ·intro w'
                      go_simp
                      with_reducible rfl
                     rotate_left
                     ·simp only [Act.put, List.setIfInBounds_toArray, List.set_cons_zero, List.set_cons_succ, i64_w, i32_w]
                      rfl
                     refine pure_ (i := 3) (N := some 70) (v := ?_) (a' := ?_) ⟨mk_ 26 15⟩ rfl rfl (any_of HT_.out (by kernel_rfl)) (fun _ _ _ h => h) (Or.inl ⟨by rfl, ?_⟩) ?_ ?_
                     rotate_left
                     ·intro w'
                      go_simp
                      with_reducible rfl
                     rotate_left
                     ·simp only [Act.put, List.setIfInBounds_toArray, List.set_cons_zero, List.set_cons_succ, i64_w, i32_w]
                      rfl
                     refine pure_ (i := 6) (N := some 73) (v := ?_) (a' := ?_) ⟨mk_ 26 79⟩ rfl rfl (any_of HT_.out (by kernel_rfl)) (fun _ _ _ h => h) (Or.inl ⟨by rfl, ?_⟩) ?_ ?_
                     rotate_left
                     ·intro w'
                      go_simp
                      with_reducible rfl
                     rotate_left
                     ·simp only [Act.put, List.setIfInBounds_toArray, List.set_cons_zero, List.set_cons_succ, i64_w, i32_w]
                      rfl
                     refine pure_ (i := 7) (N := some 74) (v := ?_) (a' := ?_) ⟨mk_ 26 207⟩ rfl rfl (any_of HT_.out (by kernel_rfl)) (fun _ _ _ h => h) (Or.inl ⟨by rfl, ?_⟩) ?_ ?_
                     rotate_left
                     ·intro w'
                      go_simp
                      with_reducible rfl
                     rotate_left
                     ·simp only [Act.put, List.setIfInBounds_toArray, List.set_cons_zero, List.set_cons_succ, i64_w, i32_w]
                      rfl
                     refine pure_ (i := 8) (N := some 75) (v := ?_) (a' := ?_) ⟨mk_ 26 463⟩ rfl rfl (any_of HT_.out (by kernel_rfl)) (fun _ _ _ h => h) (Or.inl ⟨by rfl, ?_⟩) ?_ ?_
                     rotate_left
                     ·intro w'
                      go_simp
                      with_reducible rfl
                     rotate_left
                     ·simp only [Act.put, List.setIfInBounds_toArray, List.set_cons_zero, List.set_cons_succ, i64_w, i32_w]
                      rfl
                     refine pure_ (i := 9) (N := some 76) (v := ?_) (a' := ?_) ⟨mk_ 26 975⟩ rfl rfl (any_of HT_.out (by kernel_rfl)) (fun _ _ _ h => h) (Or.inl ⟨by rfl, ?_⟩) ?_ ?_
                     rotate_left
                     ·intro w'
                      go_simp
                      with_reducible rfl
                     rotate_left
                     ·simp only [Act.put, List.setIfInBounds_toArray, List.set_cons_zero, List.set_cons_succ, i64_w, i32_w]
                      rfl
                     refine take_ (i := 4) (N := some 71) (v := ?_) (a' := ?_) ⟨mk_ 26 991⟩ rfl rfl (take_ofW HT_.out HW_.out (by kernel_rfl)) (fun _ _ _ h => h) (Or.inl ⟨by rfl, ?_⟩) hHeld ?_ ?_
                     rotate_left
                     ·rintro w' ⟨s0, s1, s2, s3, s4, s5, s6, s7, s8, s9, s10, s11, s12, s13, s14, s15⟩
                      go_simp
                      with_reducible rfl
                     rotate_left
                     ·simp only [Act.put, List.setIfInBounds_toArray, List.set_cons_zero, List.set_cons_succ, i64_w, i32_w]
                      rfl
                     refine take_ (i := 10) (N := some 77) (v := ?_) (a' := ?_) ⟨mk_ 26 2015⟩ rfl rfl (take_ofW HT_.out HW_.out (by kernel_rfl)) (fun _ _ _ h => h) (Or.inl ⟨by rfl, ?_⟩) hHeld ?_ ?_
                     rotate_left
                     ·rintro w' ⟨s0, s1, s2, s3, s4, s5, s6, s7, s8, s9, s10, s11, s12, s13, s14, s15⟩
                      go_simp
                      with_reducible rfl
                     rotate_left
                     ·simp only [Act.put, List.setIfInBounds_toArray, List.set_cons_zero, List.set_cons_succ, i64_w, i32_w]
                      rfl
                     refine one_ (i := 5) (N := some 72) ⟨mk_ 26 2047⟩ rfl rfl (one_of HT_.out (by kernel_rfl)) (by decide) (fun K hK => ?_)
                     refine goes_ Try.func16 (by kernel_rfl) rfl #[.int .i64 ((rd_T41 y246 x10_5).f1)] (by rfl) rfl rfl (by (try simp only [List.map_toArray, List.map_cons, List.map_nil]); first | done | rfl | (simp only [List.length_drop, List.length_take]; rfl)) ?_
                     with_reducible refine (kind_Name.calls ((rd_T41 y246 x10_5).f1) t267 _ A52.out).mono ?_
                     rintro e w57 ⟨rfl, hb⟩
                     have HS0_ := (hb.cell (World.block_lt_of_cell? _ _ (hHeld.1))).trans (hHeld.1)
                     have HS1_ := (hb.cell (World.block_lt_of_cell? _ _ (hHeld.2.1))).trans (hHeld.2.1)
                     have HS2_ := (hb.cell (World.block_lt_of_cell? _ _ (hHeld.2.2.1))).trans (hHeld.2.2.1)
                     have HS3_ := (hb.cell (World.block_lt_of_cell? _ _ (hHeld.2.2.2.1))).trans (hHeld.2.2.2.1)
                     have HS4_ := (hb.cell (World.block_lt_of_cell? _ _ (hHeld.2.2.2.2.1))).trans (hHeld.2.2.2.2.1)
                     have HS5_ := (hb.cell (World.block_lt_of_cell? _ _ (hHeld.2.2.2.2.2.1))).trans (hHeld.2.2.2.2.2.1)
                     have HS6_ := (hb.cell (World.block_lt_of_cell? _ _ (hHeld.2.2.2.2.2.2.1))).trans (hHeld.2.2.2.2.2.2.1)
                     have HS7_ := (hb.cell (World.block_lt_of_cell? _ _ (hHeld.2.2.2.2.2.2.2.1))).trans (hHeld.2.2.2.2.2.2.2.1)
                     have HS8_ := (hb.cell (World.block_lt_of_cell? _ _ (hHeld.2.2.2.2.2.2.2.2.1))).trans (hHeld.2.2.2.2.2.2.2.2.1)
                     have HS9_ := (hb.cell (World.block_lt_of_cell? _ _ (hHeld.2.2.2.2.2.2.2.2.2.1))).trans (hHeld.2.2.2.2.2.2.2.2.2.1)
                     have HS10_ := (hb.cell (World.block_lt_of_cell? _ _ (hHeld.2.2.2.2.2.2.2.2.2.2.1))).trans (hHeld.2.2.2.2.2.2.2.2.2.2.1)
                     have HS11_ := (hb.cell (World.block_lt_of_cell? _ _ (hHeld.2.2.2.2.2.2.2.2.2.2.2.1))).trans (hHeld.2.2.2.2.2.2.2.2.2.2.2.1)
                     have HS12_ := (hb.cell (World.block_lt_of_cell? _ _ (hHeld.2.2.2.2.2.2.2.2.2.2.2.2.1))).trans (hHeld.2.2.2.2.2.2.2.2.2.2.2.2.1)
                     have HS13_ := (hb.cell (World.block_lt_of_cell? _ _ (hHeld.2.2.2.2.2.2.2.2.2.2.2.2.2.1))).trans (hHeld.2.2.2.2.2.2.2.2.2.2.2.2.2.1)
                     have HS14_ := (hb.cell (World.block_lt_of_cell? _ _ (hHeld.2.2.2.2.2.2.2.2.2.2.2.2.2.2.1))).trans (hHeld.2.2.2.2.2.2.2.2.2.2.2.2.2.2.1)
                     have HS15_ := (hb.cell (World.block_lt_of_cell? _ _ (hHeld.2.2.2.2.2.2.2.2.2.2.2.2.2.2.2))).trans (hHeld.2.2.2.2.2.2.2.2.2.2.2.2.2.2.2)
                     refine ⟨_, rfl, ?_⟩
                     have n0_ := Aside0.mk (Kd.R_below (by (with_reducible repeat (first | apply Kd.R_alloc | apply Kd.R_drewN | apply Kd.R_drew)); exact HO_3.out) hb)
                     have n1_ := Aside0.mk (blk_below (g := gb241) (o := .cells #[.int .i64 x242000_2, .int .i64 x242001_2, .string x242002_2, .int .i64 x242003_2] 41 (0, 0)) (by (with_reducible repeat (first | refine blk_drewN ?_ _ | refine blk_drew ?_ | refine blk_alloc ?_ _)); exact BK241.out) hb)
                     have n2_ := Aside0.mk (below_step (by repeat (first | (with_reducible first | exact HB.out | apply below_alloc | apply pw_below_drewN | apply below_drew1 | refine below_set ?_ GE241.out) | exact HB.out)) hb)
                     clear HO_3
                     clear BK241
                     clear HB
                     have HO_3 := n0_
                     have BK241 := n1_
                     have HB := n2_
                     clear n0_ n1_ n2_
                     (try clear hb)
                     (try clear hb2)
                     (try clear hk)
                     (try clear hi)
                     refine hK.out _ _ ⟨HS0_, HS1_, HS2_, HS3_, HS4_, HS5_, HS6_, HS7_, HS8_, HS9_, HS10_, HS11_, HS12_, HS13_, HS14_, HS15_⟩ (fun hHeld => ?_)
                     clear hK K
                     refine norm_ (a' := ?_) ?_ ?_
                     rotate_left
                     ·show Act.put _ (some 72) _ = _
                      simp only [Act.put, List.setIfInBounds_toArray, List.set_cons_zero, List.set_cons_succ, i64_w, i32_w]
                      rfl
                     refine pure_ (i := 11) (N := some 78) (v := ?_) (a' := ?_) ⟨mk_ 26 4095⟩ rfl rfl (any_of HT_.out (by kernel_rfl)) (fun _ _ _ h => h) (Or.inl ⟨by rfl, ?_⟩) ?_ ?_
                     rotate_left
                     ·intro w'
                      go_simp
                      with_reducible rfl
                     rotate_left
                     ·simp only [Act.put, List.setIfInBounds_toArray, List.set_cons_zero, List.set_cons_succ, i64_w, i32_w]
                      rfl
                     refine pure_ (i := 12) (N := some 79) (v := ?_) (a' := ?_) ⟨mk_ 26 8191⟩ rfl rfl (any_of HT_.out (by kernel_rfl)) (fun _ _ _ h => h) (Or.inl ⟨by rfl, ?_⟩) ?_ ?_
                     rotate_left
                     ·intro w'
                      go_simp
                      with_reducible rfl
                     rotate_left
                     ·simp only [Act.put, List.setIfInBounds_toArray, List.set_cons_zero, List.set_cons_succ, i64_w, i32_w]
                      rfl
                     refine pure_ (i := 13) (N := some 80) (v := ?_) (a' := ?_) ⟨mk_ 26 16383⟩ rfl rfl (any_of HT_.out (by kernel_rfl)) (fun _ _ _ h => h) (Or.inl ⟨by rfl, ?_⟩) ?_ ?_
                     rotate_left
                     ·intro w'
                      go_simp
                      with_reducible rfl
                     rotate_left
                     ·simp only [Act.put, List.setIfInBounds_toArray, List.set_cons_zero, List.set_cons_succ, i64_w, i32_w]
                      rfl
                     refine pure_ (i := 14) (N := some 81) (v := ?_) (a' := ?_) ⟨mk_ 26 32767⟩ rfl rfl (any_of HT_.out (by kernel_rfl)) (fun _ _ _ h => h) (Or.inl ⟨by rfl, ?_⟩) ?_ ?_
                     rotate_left
                     ·intro w'
                      go_simp
                      with_reducible rfl
                     rotate_left
                     ·simp only [Act.put, List.setIfInBounds_toArray, List.set_cons_zero, List.set_cons_succ, i64_w, i32_w]
                      rfl
                     refine pure_ (i := 15) (N := some 82) (v := ?_) (a' := ?_) ⟨mk_ 26 65535⟩ rfl rfl (any_of HT_.out (by kernel_rfl)) (fun _ _ _ h => h) (Or.inl ⟨by rfl, ?_⟩) ?_ ?_
                     rotate_left
                     ·intro w'
                      go_simp
                      with_reducible rfl
                     rotate_left
                     ·simp only [Act.put, List.setIfInBounds_toArray, List.set_cons_zero, List.set_cons_succ, i64_w, i32_w]
                      rfl
                     refine pure_ (i := 16) (N := some 83) (v := ?_) (a' := ?_) ⟨mk_ 26 131071⟩ rfl rfl (any_of HT_.out (by kernel_rfl)) (fun _ _ _ h => h) (Or.inl ⟨by rfl, ?_⟩) ?_ ?_
                     rotate_left
                     ·intro w'
                      go_simp
                      with_reducible rfl
                     rotate_left
                     ·simp only [Act.put, List.setIfInBounds_toArray, List.set_cons_zero, List.set_cons_succ, i64_w, i32_w]
                      rfl
                     refine pure_ (i := 19) (N := some 86) (v := ?_) (a' := ?_) ⟨mk_ 26 655359⟩ rfl rfl (any_of HT_.out (by kernel_rfl)) (fun _ _ _ h => h) (Or.inl ⟨by rfl, ?_⟩) ?_ ?_
                     rotate_left
                     ·intro w'
                      go_simp
                      with_reducible rfl
                     rotate_left
                     ·simp only [Act.put, List.setIfInBounds_toArray, List.set_cons_zero, List.set_cons_succ, i64_w, i32_w]
                      rfl
                     refine pure_ (i := 20) (N := some 87) (v := ?_) (a' := ?_) ⟨mk_ 26 1703935⟩ rfl rfl (any_of HT_.out (by kernel_rfl)) (fun _ _ _ h => h) (Or.inl ⟨by rfl, ?_⟩) ?_ ?_
                     rotate_left
                     ·intro w'
                      go_simp
                      with_reducible rfl
                     rotate_left
                     ·simp only [Act.put, List.setIfInBounds_toArray, List.set_cons_zero, List.set_cons_succ, i64_w, i32_w]
                      rfl
                     refine pure_ (i := 21) (N := some 88) (v := ?_) (a' := ?_) ⟨mk_ 26 3801087⟩ rfl rfl (any_of HT_.out (by kernel_rfl)) (fun _ _ _ h => h) (Or.inl ⟨by rfl, ?_⟩) ?_ ?_
                     rotate_left
                     ·intro w'
                      go_simp
                      with_reducible rfl
                     rotate_left
                     ·simp only [Act.put, List.setIfInBounds_toArray, List.set_cons_zero, List.set_cons_succ, i64_w, i32_w]
                      rfl
                     refine pure_ (i := 22) (N := some 89) (v := ?_) (a' := ?_) ⟨mk_ 26 7995391⟩ rfl rfl (any_of HT_.out (by kernel_rfl)) (fun _ _ _ h => h) (Or.inl ⟨by rfl, ?_⟩) ?_ ?_
                     rotate_left
                     ·intro w'
                      go_simp
                      with_reducible rfl
                     rotate_left
                     ·simp only [Act.put, List.setIfInBounds_toArray, List.set_cons_zero, List.set_cons_succ, i64_w, i32_w]
                      rfl
                     refine take_ (i := 17) (N := some 84) (v := ?_) (a' := ?_) ⟨mk_ 26 8126463⟩ rfl rfl (take_ofW HT_.out HW_.out (by kernel_rfl)) (fun _ _ _ h => h) (Or.inl ⟨by rfl, ?_⟩) hHeld ?_ ?_
                     rotate_left
                     ·rintro w' ⟨s0, s1, s2, s3, s4, s5, s6, s7, s8, s9, s10, s11, s12, s13, s14, s15⟩
                      go_simp
                      with_reducible rfl
                     rotate_left
                     ·simp only [Act.put, List.setIfInBounds_toArray, List.set_cons_zero, List.set_cons_succ, i64_w, i32_w]
                      rfl
                     refine take_ (i := 23) (N := some 90) (v := ?_) (a' := ?_) ⟨mk_ 26 16515071⟩ rfl rfl (take_ofW HT_.out HW_.out (by kernel_rfl)) (fun _ _ _ h => h) (Or.inl ⟨by rfl, ?_⟩) hHeld ?_ ?_
                     rotate_left
                     ·rintro w' ⟨s0, s1, s2, s3, s4, s5, s6, s7, s8, s9, s10, s11, s12, s13, s14, s15⟩
                      go_simp
                      with_reducible rfl
                     rotate_left
                     ·simp only [Act.put, List.setIfInBounds_toArray, List.set_cons_zero, List.set_cons_succ, i64_w, i32_w]
                      rfl
                     refine one_ (i := 18) (N := some 85) ⟨mk_ 26 16777215⟩ rfl rfl (one_of HT_.out (by kernel_rfl)) (by decide) (fun K hK => ?_)
                     refine goes_ Try.func14 (by kernel_rfl) rfl #[.string ((rd_T41 y246 x10_5).f2)] (by rfl) rfl rfl (by (try simp only [List.map_toArray, List.map_cons, List.map_nil]); first | done | rfl | (simp only [List.length_drop, List.length_take]; rfl)) ?_
                     with_reducible refine (kind_Of.calls ((rd_T41 y246 x10_5).f2) t270 _ A54.out).mono ?_
                     rintro e w58 ⟨rfl, hb⟩
                     have HS0_ := (hb.cell (World.block_lt_of_cell? _ _ (hHeld.1))).trans (hHeld.1)
                     have HS1_ := (hb.cell (World.block_lt_of_cell? _ _ (hHeld.2.1))).trans (hHeld.2.1)
                     have HS2_ := (hb.cell (World.block_lt_of_cell? _ _ (hHeld.2.2.1))).trans (hHeld.2.2.1)
                     have HS3_ := (hb.cell (World.block_lt_of_cell? _ _ (hHeld.2.2.2.1))).trans (hHeld.2.2.2.1)
                     have HS4_ := (hb.cell (World.block_lt_of_cell? _ _ (hHeld.2.2.2.2.1))).trans (hHeld.2.2.2.2.1)
                     have HS5_ := (hb.cell (World.block_lt_of_cell? _ _ (hHeld.2.2.2.2.2.1))).trans (hHeld.2.2.2.2.2.1)
                     have HS6_ := (hb.cell (World.block_lt_of_cell? _ _ (hHeld.2.2.2.2.2.2.1))).trans (hHeld.2.2.2.2.2.2.1)
                     have HS7_ := (hb.cell (World.block_lt_of_cell? _ _ (hHeld.2.2.2.2.2.2.2.1))).trans (hHeld.2.2.2.2.2.2.2.1)
                     have HS8_ := (hb.cell (World.block_lt_of_cell? _ _ (hHeld.2.2.2.2.2.2.2.2.1))).trans (hHeld.2.2.2.2.2.2.2.2.1)
                     have HS9_ := (hb.cell (World.block_lt_of_cell? _ _ (hHeld.2.2.2.2.2.2.2.2.2.1))).trans (hHeld.2.2.2.2.2.2.2.2.2.1)
                     have HS10_ := (hb.cell (World.block_lt_of_cell? _ _ (hHeld.2.2.2.2.2.2.2.2.2.2.1))).trans (hHeld.2.2.2.2.2.2.2.2.2.2.1)
                     have HS11_ := (hb.cell (World.block_lt_of_cell? _ _ (hHeld.2.2.2.2.2.2.2.2.2.2.2.1))).trans (hHeld.2.2.2.2.2.2.2.2.2.2.2.1)
                     have HS12_ := (hb.cell (World.block_lt_of_cell? _ _ (hHeld.2.2.2.2.2.2.2.2.2.2.2.2.1))).trans (hHeld.2.2.2.2.2.2.2.2.2.2.2.2.1)
                     have HS13_ := (hb.cell (World.block_lt_of_cell? _ _ (hHeld.2.2.2.2.2.2.2.2.2.2.2.2.2.1))).trans (hHeld.2.2.2.2.2.2.2.2.2.2.2.2.2.1)
                     have HS14_ := (hb.cell (World.block_lt_of_cell? _ _ (hHeld.2.2.2.2.2.2.2.2.2.2.2.2.2.2.1))).trans (hHeld.2.2.2.2.2.2.2.2.2.2.2.2.2.2.1)
                     have HS15_ := (hb.cell (World.block_lt_of_cell? _ _ (hHeld.2.2.2.2.2.2.2.2.2.2.2.2.2.2.2))).trans (hHeld.2.2.2.2.2.2.2.2.2.2.2.2.2.2.2)
                     refine ⟨_, rfl, ?_⟩
                     have n0_ := Aside0.mk (Kd.R_below (by (with_reducible repeat (first | apply Kd.R_alloc | apply Kd.R_drewN | apply Kd.R_drew)); exact HO_3.out) hb)
                     have n1_ := Aside0.mk (blk_below (g := gb241) (o := .cells #[.int .i64 x242000_2, .int .i64 x242001_2, .string x242002_2, .int .i64 x242003_2] 41 (0, 0)) (by (with_reducible repeat (first | refine blk_drewN ?_ _ | refine blk_drew ?_ | refine blk_alloc ?_ _)); exact BK241.out) hb)
                     have n2_ := Aside0.mk (below_step (by repeat (first | (with_reducible first | exact HB.out | apply below_alloc | apply pw_below_drewN | apply below_drew1 | refine below_set ?_ GE241.out) | exact HB.out)) hb)
                     clear HO_3
                     clear BK241
                     clear HB
                     have HO_3 := n0_
                     have BK241 := n1_
                     have HB := n2_
                     clear n0_ n1_ n2_
                     (try clear hb)
                     (try clear hb2)
                     (try clear hk)
                     (try clear hi)
                     refine hK.out _ _ ⟨HS0_, HS1_, HS2_, HS3_, HS4_, HS5_, HS6_, HS7_, HS8_, HS9_, HS10_, HS11_, HS12_, HS13_, HS14_, HS15_⟩ (fun hHeld => ?_)
                     clear hK K
                     refine norm_ (a' := ?_) ?_ ?_
                     rotate_left
                     ·show Act.put _ (some 85) _ = _
                      simp only [Act.put, List.setIfInBounds_toArray, List.set_cons_zero, List.set_cons_succ, i64_w, i32_w]
                      rfl
                     refine pure_ (i := 24) (N := some 91) (v := ?_) (a' := ?_) ⟨mk_ 26 33554431⟩ rfl rfl (any_of HT_.out (by kernel_rfl)) (fun _ _ _ h => h) (Or.inl ⟨by rfl, ?_⟩) ?_ ?_
                     rotate_left
                     ·intro w'
                      go_simp
                      with_reducible rfl
                     rotate_left
                     ·simp only [Act.put, List.setIfInBounds_toArray, List.set_cons_zero, List.set_cons_succ, i64_w, i32_w]
                      rfl
                     refine pure_ (i := 25) (N := some 92) (v := ?_) (a' := ?_) ⟨mk_ 26 67108863⟩ rfl rfl (any_of HT_.out (by kernel_rfl)) (fun _ _ _ h => h) (Or.inl ⟨by rfl, ?_⟩) ?_ ?_
                     rotate_left
                     ·intro w'
                      go_simp
                      with_reducible rfl
                     rotate_left
                     ·simp only [Act.put, List.setIfInBounds_toArray, List.set_cons_zero, List.set_cons_succ, i64_w, i32_w]
                      rfl
                     refine done_ (done_of HT_.out (by kernel_rfl)) ?_
                     have p272 : 0 ≤ (x10_5 : Int) := of_decide_eq_true (by first | (with_reducible assumption) | assumption)
                     have q272 : x10_5 < (y246.length : Int) := of_decide_eq_true (by first | (with_reducible assumption) | assumption)
                     obtain ⟨ad272, e272, hx272_0, hx272_1, hx272_2, hx272_3⟩ := at_T41 (Kd.R_reads' HO_3.out).2.2 x10_5 p272 q272
                     obtain rfl : ad266 = ad272 := (by injection e272)
                     replace p272 := eq_true p272
                     replace q272 := eq_true q272
                     try go_wp2
                     go_roundg k5
                     case measure => have := HJ7.out; have := HK2.out; have := HK3.out; have := HJ34.out; have := HK5.out; omega
                     case rel => exact ⟨(wrap64 (x9_5 + ((rd_T41 y246 x10_5).f3))), (wrap64 (x10_5 + 1)), (by first | rfl | (simp; done) | (simp [*]; done)), (by first | rfl | (simp; done) | (simp [*]; done)), H', ⟨by have := HJ7.out; have := HK2.out; have := HK3.out; have := HJ34.out; have := HK5.out; omega⟩, ⟨by (with_reducible repeat (first | apply Kd.R_alloc | apply Kd.R_drewN | apply Kd.R_drew)); exact HO_3.out⟩, ⟨by (with_reducible repeat (first | refine blk_drewN ?_ _ | refine blk_drew ?_ | refine blk_alloc ?_ _)); exact BK241.out⟩, ⟨by repeat (first | (with_reducible first | exact HB.out | apply below_alloc | apply pw_below_drewN | apply below_drew1 | refine below_set ?_ GE241.out) | exact HB.out)⟩⟩
                    ·rw [if_neg c55] at H
                     have c55b0 : (t270 == ((rd_T41 y246 x10_5).f1)) = false := beq_eq_false_iff_ne.mpr c55
                     have c55b1 : (t270 != ((rd_T41 y246 x10_5).f1)) = true := bne_iff_ne.mpr c55
                     exact absurd ((Option.some.inj H).trans hr_.out) (by simp)
                   ·rw [if_neg c53] at H
                    have c53b0 : (t267.toList == ((rd_T41 y246 x10_5).f2).toList) = false := beq_eq_false_iff_ne.mpr c53
                    have c53b1 : (t267.toList != ((rd_T41 y246 x10_5).f2).toList) = true := bne_iff_ne.mpr c53
                    exact absurd ((Option.some.inj H).trans hr_.out) (by simp)
                  ·rw [if_neg c51] at H
                   exact absurd H (by simp)
                 ·rw [if_neg c50] at H
                  have c50b0 : decide (x10_5 < (y246.length : Int)) = false := decide_eq_false c50
                  clear c50
                  by_cases c59 : x9_5 = 21
                  ·rw [if_pos c59] at H
                   have c59b0 : (x9_5 == 21) = true := beq_iff_eq.mpr c59
                   have c59b1 : (x9_5 != 21) = false := bne_eq_false_iff_eq.mpr c59
                   clear c59
                   replace H := Option.bind_eq_some_iff.mp H
                   obtain ⟨t273, A600, H⟩ := H
                   replace H : (if t273 = 0 then ((kind_Width.f).bind fun t274 => (if t274 = x9_5 then ((kind_Uint.f).bind fun t275 => ((kind_Of.f (⟨#[117, 105, 110, 116]⟩ : ByteArray)).bind fun t276 => (if t275 = t276 then ((kind_Int.f).bind fun t277 => ((kind_Of.f (⟨#[105, 110, 116]⟩ : ByteArray)).bind fun t278 => (if t277 = t278 then ((kind_Bool.f).bind fun t279 => ((kind_Of.f (⟨#[98, 111, 111, 108]⟩ : ByteArray)).bind fun t280 => (if t279 = t280 then ((kind_Text.f).bind fun t281 => ((kind_Of.f (⟨#[116, 101, 120, 116]⟩ : ByteArray)).bind fun t282 => (if t281 = t282 then ((kind_Bytes.f).bind fun t283 => ((kind_Of.f (⟨#[98, 121, 116, 101, 115]⟩ : ByteArray)).bind fun t284 => (if t283 = t284 then ((stratumlaw04_awake.f k5).bind fun t285 => (some t285)) else (some false)))) else (some false)))) else (some false)))) else (some false)))) else (some false)))) else (some false))) else (some false)) = some r := H
                   have A60 := Aside0.mk A600
                   clear A600
                   by_cases c61 : t273 = 0
                   ·rw [if_pos c61] at H
                    have c61b0 : (t273 == 0) = true := beq_iff_eq.mpr c61
                    have c61b1 : (t273 != 0) = false := bne_eq_false_iff_eq.mpr c61
                    clear c61
                    replace H := Option.bind_eq_some_iff.mp H
                    obtain ⟨t274, A620, H⟩ := H
                    replace H : (if t274 = x9_5 then ((kind_Uint.f).bind fun t275 => ((kind_Of.f (⟨#[117, 105, 110, 116]⟩ : ByteArray)).bind fun t276 => (if t275 = t276 then ((kind_Int.f).bind fun t277 => ((kind_Of.f (⟨#[105, 110, 116]⟩ : ByteArray)).bind fun t278 => (if t277 = t278 then ((kind_Bool.f).bind fun t279 => ((kind_Of.f (⟨#[98, 111, 111, 108]⟩ : ByteArray)).bind fun t280 => (if t279 = t280 then ((kind_Text.f).bind fun t281 => ((kind_Of.f (⟨#[116, 101, 120, 116]⟩ : ByteArray)).bind fun t282 => (if t281 = t282 then ((kind_Bytes.f).bind fun t283 => ((kind_Of.f (⟨#[98, 121, 116, 101, 115]⟩ : ByteArray)).bind fun t284 => (if t283 = t284 then ((stratumlaw04_awake.f k5).bind fun t285 => (some t285)) else (some false)))) else (some false)))) else (some false)))) else (some false)))) else (some false)))) else (some false)) = some r := H
                    have A62 := Aside0.mk A620
                    clear A620
                    by_cases c63 : t274 = x9_5
                    ·rw [if_pos c63] at H
                     have c63b0 : (t274 == x9_5) = true := beq_iff_eq.mpr c63
                     have c63b1 : (t274 != x9_5) = false := bne_eq_false_iff_eq.mpr c63
                     clear c63
                     replace H := Option.bind_eq_some_iff.mp H
                     obtain ⟨t275, A640, H⟩ := H
                     replace H : ((kind_Of.f (⟨#[117, 105, 110, 116]⟩ : ByteArray)).bind fun t276 => (if t275 = t276 then ((kind_Int.f).bind fun t277 => ((kind_Of.f (⟨#[105, 110, 116]⟩ : ByteArray)).bind fun t278 => (if t277 = t278 then ((kind_Bool.f).bind fun t279 => ((kind_Of.f (⟨#[98, 111, 111, 108]⟩ : ByteArray)).bind fun t280 => (if t279 = t280 then ((kind_Text.f).bind fun t281 => ((kind_Of.f (⟨#[116, 101, 120, 116]⟩ : ByteArray)).bind fun t282 => (if t281 = t282 then ((kind_Bytes.f).bind fun t283 => ((kind_Of.f (⟨#[98, 121, 116, 101, 115]⟩ : ByteArray)).bind fun t284 => (if t283 = t284 then ((stratumlaw04_awake.f k5).bind fun t285 => (some t285)) else (some false)))) else (some false)))) else (some false)))) else (some false)))) else (some false))) = some r := H
                     have A64 := Aside0.mk A640
                     clear A640
                     replace H := Option.bind_eq_some_iff.mp H
                     obtain ⟨t276, A650, H⟩ := H
                     replace H : (if t275 = t276 then ((kind_Int.f).bind fun t277 => ((kind_Of.f (⟨#[105, 110, 116]⟩ : ByteArray)).bind fun t278 => (if t277 = t278 then ((kind_Bool.f).bind fun t279 => ((kind_Of.f (⟨#[98, 111, 111, 108]⟩ : ByteArray)).bind fun t280 => (if t279 = t280 then ((kind_Text.f).bind fun t281 => ((kind_Of.f (⟨#[116, 101, 120, 116]⟩ : ByteArray)).bind fun t282 => (if t281 = t282 then ((kind_Bytes.f).bind fun t283 => ((kind_Of.f (⟨#[98, 121, 116, 101, 115]⟩ : ByteArray)).bind fun t284 => (if t283 = t284 then ((stratumlaw04_awake.f k5).bind fun t285 => (some t285)) else (some false)))) else (some false)))) else (some false)))) else (some false)))) else (some false)) = some r := H
                     have A65 := Aside0.mk A650
                     clear A650
                     by_cases c66 : t275 = t276
                     ·rw [if_pos c66] at H
                      have c66b0 : (t275 == t276) = true := beq_iff_eq.mpr c66
                      have c66b1 : (t275 != t276) = false := bne_eq_false_iff_eq.mpr c66
                      clear c66
                      replace H := Option.bind_eq_some_iff.mp H
                      obtain ⟨t277, A670, H⟩ := H
                      replace H : ((kind_Of.f (⟨#[105, 110, 116]⟩ : ByteArray)).bind fun t278 => (if t277 = t278 then ((kind_Bool.f).bind fun t279 => ((kind_Of.f (⟨#[98, 111, 111, 108]⟩ : ByteArray)).bind fun t280 => (if t279 = t280 then ((kind_Text.f).bind fun t281 => ((kind_Of.f (⟨#[116, 101, 120, 116]⟩ : ByteArray)).bind fun t282 => (if t281 = t282 then ((kind_Bytes.f).bind fun t283 => ((kind_Of.f (⟨#[98, 121, 116, 101, 115]⟩ : ByteArray)).bind fun t284 => (if t283 = t284 then ((stratumlaw04_awake.f k5).bind fun t285 => (some t285)) else (some false)))) else (some false)))) else (some false)))) else (some false))) = some r := H
                      have A67 := Aside0.mk A670
                      clear A670
                      replace H := Option.bind_eq_some_iff.mp H
                      obtain ⟨t278, A680, H⟩ := H
                      replace H : (if t277 = t278 then ((kind_Bool.f).bind fun t279 => ((kind_Of.f (⟨#[98, 111, 111, 108]⟩ : ByteArray)).bind fun t280 => (if t279 = t280 then ((kind_Text.f).bind fun t281 => ((kind_Of.f (⟨#[116, 101, 120, 116]⟩ : ByteArray)).bind fun t282 => (if t281 = t282 then ((kind_Bytes.f).bind fun t283 => ((kind_Of.f (⟨#[98, 121, 116, 101, 115]⟩ : ByteArray)).bind fun t284 => (if t283 = t284 then ((stratumlaw04_awake.f k5).bind fun t285 => (some t285)) else (some false)))) else (some false)))) else (some false)))) else (some false)) = some r := H
                      have A68 := Aside0.mk A680
                      clear A680
                      by_cases c69 : t277 = t278
                      ·rw [if_pos c69] at H
                       have c69b0 : (t277 == t278) = true := beq_iff_eq.mpr c69
                       have c69b1 : (t277 != t278) = false := bne_eq_false_iff_eq.mpr c69
                       clear c69
                       replace H := Option.bind_eq_some_iff.mp H
                       obtain ⟨t279, A700, H⟩ := H
                       replace H : ((kind_Of.f (⟨#[98, 111, 111, 108]⟩ : ByteArray)).bind fun t280 => (if t279 = t280 then ((kind_Text.f).bind fun t281 => ((kind_Of.f (⟨#[116, 101, 120, 116]⟩ : ByteArray)).bind fun t282 => (if t281 = t282 then ((kind_Bytes.f).bind fun t283 => ((kind_Of.f (⟨#[98, 121, 116, 101, 115]⟩ : ByteArray)).bind fun t284 => (if t283 = t284 then ((stratumlaw04_awake.f k5).bind fun t285 => (some t285)) else (some false)))) else (some false)))) else (some false))) = some r := H
                       have A70 := Aside0.mk A700
                       clear A700
                       replace H := Option.bind_eq_some_iff.mp H
                       obtain ⟨t280, A710, H⟩ := H
                       replace H : (if t279 = t280 then ((kind_Text.f).bind fun t281 => ((kind_Of.f (⟨#[116, 101, 120, 116]⟩ : ByteArray)).bind fun t282 => (if t281 = t282 then ((kind_Bytes.f).bind fun t283 => ((kind_Of.f (⟨#[98, 121, 116, 101, 115]⟩ : ByteArray)).bind fun t284 => (if t283 = t284 then ((stratumlaw04_awake.f k5).bind fun t285 => (some t285)) else (some false)))) else (some false)))) else (some false)) = some r := H
                       have A71 := Aside0.mk A710
                       clear A710
                       by_cases c72 : t279 = t280
                       ·rw [if_pos c72] at H
                        have c72b0 : (t279 == t280) = true := beq_iff_eq.mpr c72
                        have c72b1 : (t279 != t280) = false := bne_eq_false_iff_eq.mpr c72
                        clear c72
                        replace H := Option.bind_eq_some_iff.mp H
                        obtain ⟨t281, A730, H⟩ := H
                        replace H : ((kind_Of.f (⟨#[116, 101, 120, 116]⟩ : ByteArray)).bind fun t282 => (if t281 = t282 then ((kind_Bytes.f).bind fun t283 => ((kind_Of.f (⟨#[98, 121, 116, 101, 115]⟩ : ByteArray)).bind fun t284 => (if t283 = t284 then ((stratumlaw04_awake.f k5).bind fun t285 => (some t285)) else (some false)))) else (some false))) = some r := H
                        have A73 := Aside0.mk A730
                        clear A730
                        replace H := Option.bind_eq_some_iff.mp H
                        obtain ⟨t282, A740, H⟩ := H
                        replace H : (if t281 = t282 then ((kind_Bytes.f).bind fun t283 => ((kind_Of.f (⟨#[98, 121, 116, 101, 115]⟩ : ByteArray)).bind fun t284 => (if t283 = t284 then ((stratumlaw04_awake.f k5).bind fun t285 => (some t285)) else (some false)))) else (some false)) = some r := H
                        have A74 := Aside0.mk A740
                        clear A740
                        by_cases c75 : t281 = t282
                        ·rw [if_pos c75] at H
                         have c75b0 : (t281 == t282) = true := beq_iff_eq.mpr c75
                         have c75b1 : (t281 != t282) = false := bne_eq_false_iff_eq.mpr c75
                         clear c75
                         replace H := Option.bind_eq_some_iff.mp H
                         obtain ⟨t283, A760, H⟩ := H
                         replace H : ((kind_Of.f (⟨#[98, 121, 116, 101, 115]⟩ : ByteArray)).bind fun t284 => (if t283 = t284 then ((stratumlaw04_awake.f k5).bind fun t285 => (some t285)) else (some false))) = some r := H
                         have A76 := Aside0.mk A760
                         clear A760
                         replace H := Option.bind_eq_some_iff.mp H
                         obtain ⟨t284, A770, H⟩ := H
                         replace H : (if t283 = t284 then ((stratumlaw04_awake.f k5).bind fun t285 => (some t285)) else (some false)) = some r := H
                         have A77 := Aside0.mk A770
                         clear A770
                         by_cases c78 : t283 = t284
                         ·rw [if_pos c78] at H
                          have c78b0 : (t283 == t284) = true := beq_iff_eq.mpr c78
                          have c78b1 : (t283 != t284) = false := bne_eq_false_iff_eq.mpr c78
                          clear c78
                          replace H := Option.bind_eq_some_iff.mp H
                          obtain ⟨t285, A790, H⟩ := H
                          replace H : (some t285) = some r := H
                          have A79 := Aside0.mk A790
                          clear A790
                          obtain rfl := Option.some.inj H
                          go_wp2_with (first | (go_at_call 27; (with_reducible refine (kind_Base.calls  t273 _ A60.out).mono ?_); rintro e w' ⟨rfl, ⟨nd, rfl⟩⟩) | (go_at_call 28; (with_reducible refine (kind_Width.calls  t274 _ A62.out).mono ?_); rintro e w80 ⟨rfl, hb⟩; have n0_ := Aside0.mk (Kd.R_below (by (with_reducible repeat (first | apply Kd.R_alloc | apply Kd.R_drewN | apply Kd.R_drew)); exact HO_3.out) hb); have n1_ := Aside0.mk (blk_below (g := gb241) (o := .cells #[.int .i64 x242000_2, .int .i64 x242001_2, .string x242002_2, .int .i64 x242003_2] 41 (0, 0)) (by (with_reducible repeat (first | refine blk_drewN ?_ _ | refine blk_drew ?_ | refine blk_alloc ?_ _)); exact BK241.out) hb); have n2_ := Aside0.mk (below_step (by repeat (first | (with_reducible first | exact HB.out | apply below_alloc | apply pw_below_drewN | apply below_drew1 | refine below_set ?_ GE241.out) | exact HB.out)) hb); clear HO_3; clear BK241; clear HB; have HO_3 := n0_; have BK241 := n1_; have HB := n2_; clear n0_ n1_ n2_; (try clear hb); (try clear hb2); (try clear hk); (try clear hi)) | (go_at_call 18; (with_reducible refine (kind_Uint.calls  t275 _ A64.out).mono ?_); rintro e w' ⟨rfl, ⟨nd, rfl⟩⟩) | (go_at_call 14; (with_reducible refine (kind_Of.calls (⟨#[117, 105, 110, 116]⟩ : ByteArray) t276 _ A65.out).mono ?_); rintro e w81 ⟨rfl, hb⟩; have n0_ := Aside0.mk (Kd.R_below (by (with_reducible repeat (first | apply Kd.R_alloc | apply Kd.R_drewN | apply Kd.R_drew)); exact HO_3.out) hb); have n1_ := Aside0.mk (blk_below (g := gb241) (o := .cells #[.int .i64 x242000_2, .int .i64 x242001_2, .string x242002_2, .int .i64 x242003_2] 41 (0, 0)) (by (with_reducible repeat (first | refine blk_drewN ?_ _ | refine blk_drew ?_ | refine blk_alloc ?_ _)); exact BK241.out) hb); have n2_ := Aside0.mk (below_step (by repeat (first | (with_reducible first | exact HB.out | apply below_alloc | apply pw_below_drewN | apply below_drew1 | refine below_set ?_ GE241.out) | exact HB.out)) hb); clear HO_3; clear BK241; clear HB; have HO_3 := n0_; have BK241 := n1_; have HB := n2_; clear n0_ n1_ n2_; (try clear hb); (try clear hb2); (try clear hk); (try clear hi)) | (go_at_call 19; (with_reducible refine (kind_Int.calls  t277 _ A67.out).mono ?_); rintro e w' ⟨rfl, ⟨nd, rfl⟩⟩) | (go_at_call 14; (with_reducible refine (kind_Of.calls (⟨#[105, 110, 116]⟩ : ByteArray) t278 _ A68.out).mono ?_); rintro e w82 ⟨rfl, hb⟩; have n0_ := Aside0.mk (Kd.R_below (by (with_reducible repeat (first | apply Kd.R_alloc | apply Kd.R_drewN | apply Kd.R_drew)); exact HO_3.out) hb); have n1_ := Aside0.mk (blk_below (g := gb241) (o := .cells #[.int .i64 x242000_2, .int .i64 x242001_2, .string x242002_2, .int .i64 x242003_2] 41 (0, 0)) (by (with_reducible repeat (first | refine blk_drewN ?_ _ | refine blk_drew ?_ | refine blk_alloc ?_ _)); exact BK241.out) hb); have n2_ := Aside0.mk (below_step (by repeat (first | (with_reducible first | exact HB.out | apply below_alloc | apply pw_below_drewN | apply below_drew1 | refine below_set ?_ GE241.out) | exact HB.out)) hb); clear HO_3; clear BK241; clear HB; have HO_3 := n0_; have BK241 := n1_; have HB := n2_; clear n0_ n1_ n2_; (try clear hb); (try clear hb2); (try clear hk); (try clear hi)) | (go_at_call 20; (with_reducible refine (kind_Bool.calls  t279 _ A70.out).mono ?_); rintro e w' ⟨rfl, ⟨nd, rfl⟩⟩) | (go_at_call 14; (with_reducible refine (kind_Of.calls (⟨#[98, 111, 111, 108]⟩ : ByteArray) t280 _ A71.out).mono ?_); rintro e w83 ⟨rfl, hb⟩; have n0_ := Aside0.mk (Kd.R_below (by (with_reducible repeat (first | apply Kd.R_alloc | apply Kd.R_drewN | apply Kd.R_drew)); exact HO_3.out) hb); have n1_ := Aside0.mk (blk_below (g := gb241) (o := .cells #[.int .i64 x242000_2, .int .i64 x242001_2, .string x242002_2, .int .i64 x242003_2] 41 (0, 0)) (by (with_reducible repeat (first | refine blk_drewN ?_ _ | refine blk_drew ?_ | refine blk_alloc ?_ _)); exact BK241.out) hb); have n2_ := Aside0.mk (below_step (by repeat (first | (with_reducible first | exact HB.out | apply below_alloc | apply pw_below_drewN | apply below_drew1 | refine below_set ?_ GE241.out) | exact HB.out)) hb); clear HO_3; clear BK241; clear HB; have HO_3 := n0_; have BK241 := n1_; have HB := n2_; clear n0_ n1_ n2_; (try clear hb); (try clear hb2); (try clear hk); (try clear hi)) | (go_at_call 21; (with_reducible refine (kind_Text.calls  t281 _ A73.out).mono ?_); rintro e w' ⟨rfl, ⟨nd, rfl⟩⟩) | (go_at_call 14; (with_reducible refine (kind_Of.calls (⟨#[116, 101, 120, 116]⟩ : ByteArray) t282 _ A74.out).mono ?_); rintro e w84 ⟨rfl, hb⟩; have n0_ := Aside0.mk (Kd.R_below (by (with_reducible repeat (first | apply Kd.R_alloc | apply Kd.R_drewN | apply Kd.R_drew)); exact HO_3.out) hb); have n1_ := Aside0.mk (blk_below (g := gb241) (o := .cells #[.int .i64 x242000_2, .int .i64 x242001_2, .string x242002_2, .int .i64 x242003_2] 41 (0, 0)) (by (with_reducible repeat (first | refine blk_drewN ?_ _ | refine blk_drew ?_ | refine blk_alloc ?_ _)); exact BK241.out) hb); have n2_ := Aside0.mk (below_step (by repeat (first | (with_reducible first | exact HB.out | apply below_alloc | apply pw_below_drewN | apply below_drew1 | refine below_set ?_ GE241.out) | exact HB.out)) hb); clear HO_3; clear BK241; clear HB; have HO_3 := n0_; have BK241 := n1_; have HB := n2_; clear n0_ n1_ n2_; (try clear hb); (try clear hb2); (try clear hk); (try clear hi)) | (go_at_call 22; (with_reducible refine (kind_Bytes.calls  t283 _ A76.out).mono ?_); rintro e w' ⟨rfl, ⟨nd, rfl⟩⟩) | (go_at_call 14; (with_reducible refine (kind_Of.calls (⟨#[98, 121, 116, 101, 115]⟩ : ByteArray) t284 _ A77.out).mono ?_); rintro e w85 ⟨rfl, hb⟩; have n0_ := Aside0.mk (Kd.R_below (by (with_reducible repeat (first | apply Kd.R_alloc | apply Kd.R_drewN | apply Kd.R_drew)); exact HO_3.out) hb); have n1_ := Aside0.mk (blk_below (g := gb241) (o := .cells #[.int .i64 x242000_2, .int .i64 x242001_2, .string x242002_2, .int .i64 x242003_2] 41 (0, 0)) (by (with_reducible repeat (first | refine blk_drewN ?_ _ | refine blk_drew ?_ | refine blk_alloc ?_ _)); exact BK241.out) hb); have n2_ := Aside0.mk (below_step (by repeat (first | (with_reducible first | exact HB.out | apply below_alloc | apply pw_below_drewN | apply below_drew1 | refine below_set ?_ GE241.out) | exact HB.out)) hb); clear HO_3; clear BK241; clear HB; have HO_3 := n0_; have BK241 := n1_; have HB := n2_; clear n0_ n1_ n2_; (try clear hb); (try clear hb2); (try clear hk); (try clear hi)) | (go_at_call 9; (with_reducible refine (stratumlaw04_awake.calls k5  t285 _ A79.out).mono ?_); rintro e w86 ⟨rfl, hb⟩; have n0_ := Aside0.mk (Kd.R_below (by (with_reducible repeat (first | apply Kd.R_alloc | apply Kd.R_drewN | apply Kd.R_drew)); exact HO_3.out) hb); have n1_ := Aside0.mk (blk_below (g := gb241) (o := .cells #[.int .i64 x242000_2, .int .i64 x242001_2, .string x242002_2, .int .i64 x242003_2] 41 (0, 0)) (by (with_reducible repeat (first | refine blk_drewN ?_ _ | refine blk_drew ?_ | refine blk_alloc ?_ _)); exact BK241.out) hb); have n2_ := Aside0.mk (below_step (by repeat (first | (with_reducible first | exact HB.out | apply below_alloc | apply pw_below_drewN | apply below_drew1 | refine below_set ?_ GE241.out) | exact HB.out)) hb); clear HO_3; clear BK241; clear HB; have HO_3 := n0_; have BK241 := n1_; have HB := n2_; clear n0_ n1_ n2_; (try clear hb); (try clear hb2); (try clear hk); (try clear hi)))
                          go_ret
                          exact ⟨by first | rfl | (simp [errW_none, errW_some] <;> rfl) | (simp [*, errW_none, errW_some] <;> rfl), by repeat (first | (with_reducible first | exact HB.out | apply below_alloc | apply pw_below_drewN | apply below_drew1 | refine below_set ?_ GE241.out) | exact HB.out)⟩
                         ·rw [if_neg c78] at H
                          have c78b0 : (t283 == t284) = false := beq_eq_false_iff_ne.mpr c78
                          have c78b1 : (t283 != t284) = true := bne_iff_ne.mpr c78
                          exact absurd ((Option.some.inj H).trans hr_.out) (by simp)
                        ·rw [if_neg c75] at H
                         have c75b0 : (t281 == t282) = false := beq_eq_false_iff_ne.mpr c75
                         have c75b1 : (t281 != t282) = true := bne_iff_ne.mpr c75
                         exact absurd ((Option.some.inj H).trans hr_.out) (by simp)
                       ·rw [if_neg c72] at H
                        have c72b0 : (t279 == t280) = false := beq_eq_false_iff_ne.mpr c72
                        have c72b1 : (t279 != t280) = true := bne_iff_ne.mpr c72
                        exact absurd ((Option.some.inj H).trans hr_.out) (by simp)
                      ·rw [if_neg c69] at H
                       have c69b0 : (t277 == t278) = false := beq_eq_false_iff_ne.mpr c69
                       have c69b1 : (t277 != t278) = true := bne_iff_ne.mpr c69
                       exact absurd ((Option.some.inj H).trans hr_.out) (by simp)
                     ·rw [if_neg c66] at H
                      have c66b0 : (t275 == t276) = false := beq_eq_false_iff_ne.mpr c66
                      have c66b1 : (t275 != t276) = true := bne_iff_ne.mpr c66
                      exact absurd ((Option.some.inj H).trans hr_.out) (by simp)
                    ·rw [if_neg c63] at H
                     have c63b0 : (t274 == x9_5) = false := beq_eq_false_iff_ne.mpr c63
                     have c63b1 : (t274 != x9_5) = true := bne_iff_ne.mpr c63
                     exact absurd ((Option.some.inj H).trans hr_.out) (by simp)
                   ·rw [if_neg c61] at H
                    have c61b0 : (t273 == 0) = false := beq_eq_false_iff_ne.mpr c61
                    have c61b1 : (t273 != 0) = true := bne_iff_ne.mpr c61
                    exact absurd ((Option.some.inj H).trans hr_.out) (by simp)
                  ·rw [if_neg c59] at H
                   have c59b0 : (x9_5 == 21) = false := beq_eq_false_iff_ne.mpr c59
                   have c59b1 : (x9_5 != 21) = true := bne_iff_ne.mpr c59
                   exact absurd ((Option.some.inj H).trans hr_.out) (by simp)
  ·rw [if_neg c5] at H
   exact absurd H (by simp)
 ·replace c3 := Bool.eq_false_iff.mpr c3
  subst c3
  have H1 : (some false) = some r := by rw [if_neg (show ¬ (false = true) by decide)] at H; exact H
  clear H
  have H := H1
  clear H1
  exact absurd ((Option.some.inj H).trans hr_.out) (by simp)
end Go.Proofs.Ytepkmbbeaaljlaa.X
