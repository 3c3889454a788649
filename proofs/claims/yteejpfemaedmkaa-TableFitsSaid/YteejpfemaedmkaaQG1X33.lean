-- Written by wip/printx.py: the kit's printer with functions proved by hand. Not trusted: Lean checks it.
import Derived.Test.YteejpfemaedmkaaQG1X0
import Derived.Test.YteejpfemaedmkaaQG1X5
import Derived.Test.YteejpfemaedmkaaQG1X9
import Derived.Test.YteejpfemaedmkaaQG1X11
import Derived.Test.YteejpfemaedmkaaQG1X22
import Derived.Test.YteejpfemaedmkaaQG1X24
namespace Go.Proofs.Yteejpfemaedmkaa.X
open Go.RowKit Go.Proofs.YteejpfemaedmkaaW.PrintWords Go.Proofs.YteejpfemaedmkaaW.PrintLast Go.Proofs.YteejpfemaedmkaaW.PrintMore
attribute [local go_sem] max2_int min2_int max_two min_two max_three min_three max_four min_four
set_option linter.unusedVariables false
set_option linter.unusedSimpArgs false
attribute [local go_sem] vx_gtr vx_leq vx_geq
mutual
def stratumlaw13_TableFits.j0 : Nat → List (S35) → List (S53) → List (S35) → Bool → Option (Bool)
 | 0, _, _, _, _ => none
 | k + 1, x0, x1, x2, x71 => if x71 = true then (some false) else (stratumlaw13_TableFits.l0 k x0 x1 x2 0)
def stratumlaw13_TableFits.l0 : Nat → List (S35) → List (S53) → List (S35) → Int → Option (Bool)
 | 0, _, _, _, _ => none
 | k + 1, x0, x1, x2, x12 => if x12 < (x1.length : Int) then (if 0 ≤ x12 then (if x12 < (x0.length : Int) then (if ((rd_T53 x1 x12).f0) = ((rd_T35 x0 x12).f1) then (if ((rd_T53 x1 x12).f1.f0) = ((rd_T35 x0 x12).f2) then ((kind_Valid.f k ((rd_T53 x1 x12).f1.f0) ((rd_T53 x1 x12).f1.f1) ((rd_T53 x1 x12).f1.f2)).bind fun t907 => (stratumlaw13_TableFits.j2 k x0 x1 x2 x12 (!t907))) else (stratumlaw13_TableFits.j2 k x0 x1 x2 x12 true)) else (stratumlaw13_TableFits.j2 k x0 x1 x2 x12 true)) else (none)) else (none)) else (stratumlaw13_TableFits.l1 k x0 x1 x2 ((x2.length : Int) == (x0.length : Int)) 0)
def stratumlaw13_TableFits.j2 : Nat → List (S35) → List (S53) → List (S35) → Int → Bool → Option (Bool)
 | 0, _, _, _, _, _ => none
 | k + 1, x0, x1, x2, x12, x111 => if x111 = true then (some false) else (stratumlaw13_TableFits.l0 k x0 x1 x2 (wrap64 (x12 + 1)))
def stratumlaw13_TableFits.l1 : Nat → List (S35) → List (S53) → List (S35) → Bool → Int → Option (Bool)
 | 0, _, _, _, _, _ => none
 | k + 1, x0, x1, x2, x13, x14 => if x13 = true then (if x14 < (x0.length : Int) then (if 0 ≤ x14 then (if x14 < (x2.length : Int) then (if ((rd_T35 x2 x14).f1) = ((rd_T35 x0 x14).f1) then (stratumlaw13_TableFits.l1 k x0 x1 x2 (((rd_T35 x2 x14).f2) == ((rd_T35 x0 x14).f2)) (wrap64 (x14 + 1))) else (stratumlaw13_TableFits.l1 k x0 x1 x2 false (wrap64 (x14 + 1)))) else (none)) else (none)) else ((table_Typed.f k x2 x1).bind fun t912 => (some ((t912 == 0) == x13)))) else ((table_Typed.f k x2 x1).bind fun t913 => (some ((t913 == 0) == x13)))
end
def stratumlaw13_TableFits.f (k : Nat) (l0 : List (S35)) (l1 : List (S53)) (l2 : List (S35)) : Option (Bool) := (stratumlaw13_awake.f k).bind fun t882 => (if t882 = true then ((table_Typed.f k l0 l1).bind fun t883 => (if t883 = 0 then ((tlv_Encode.f k l1).bind fun bt893 => ((tlv_Decode.f k bt893.1).bind fun bt897 => (if bt893.2 = 0 then (if bt897.2 = 0 then ((table_Typed.f k l0 bt897.1).bind fun t901 => (if t901 = 0 then (stratumlaw13_TableFits.j0 k l0 l1 l2 ((l0.length : Int) != (l1.length : Int))) else (stratumlaw13_TableFits.j0 k l0 l1 l2 true))) else (stratumlaw13_TableFits.j0 k l0 l1 l2 true)) else (stratumlaw13_TableFits.j0 k l0 l1 l2 true)))) else (if t883 = 130 then (some true) else (if t883 = 2 then (if 0 ≤ (l0.length : Int) then (if 0 ≤ (l1.length : Int) then ((table_Typed.f k (l0.take 0) (l1.take 0)).bind fun t892 => (if t892 = 0 then (some ((l0.length : Int) == (l1.length : Int))) else (some false))) else (none)) else (none)) else (some false))))) else (some false))
def stratumlaw13_TableFits.T5 : Bool × List (List Nat × List Nat) := (true, [([], []), ([0], [0]), ([1], [1]), ([2], [2]), ([3, 2], [2, 3]), ([4, 2, 2], [2, 4]), ([5], [5]), ([6, 5], [5, 6]), ([5], [5]), ([8, 5], [5, 8]), ([7, 9, 5, 5], [5, 7, 9]), ([10, 5], [5, 10]), ([5, 11, 2], [2, 5, 11]), ([12, 10, 2], [2, 12]), ([13], [13]), ([14, 13], [13, 14]), ([13], [13]), ([16, 13], [13, 16]), ([15, 17, 13], [13, 15, 17]), ([13, 18, 2], [2, 13, 18]), ([2, 19], [2, 19]), ([20, 13, 0, 1, 2, 3, 4, 5, 6, 7, 8, 9, 10, 11, 12, 13, 14, 15, 16, 17, 18, 19, 20], [20])])
def stratumlaw13_TableFits.B5 : List Nat := [0, 1, 3, 7, 15, 31, 63, 127, 63, 319, 1023, 2047, 4095, 8191, 16383, 32767, 16383, 81919, 262143, 524287, 1048575, 2097151]
theorem stratumlaw13_TableFits.tab5 : rtab .any (opsOf Try.f17 5) = stratumlaw13_TableFits.T5 := by kernel_rfl
theorem stratumlaw13_TableFits.bits5 : waitsOk stratumlaw13_TableFits.T5.2 stratumlaw13_TableFits.B5 = true := by kernel_rfl
def stratumlaw13_TableFits.T13 : Bool × List (List Nat × List Nat) := (true, [([], []), ([], []), ([0, 1], [0, 1]), ([2], [2]), ([3], [3]), ([], []), ([], []), ([5, 6], [5, 6]), ([7], [7]), ([8], [8]), ([4, 9], [4, 9]), ([10], [10]), ([11], [11]), ([11], [11]), ([12, 13, 11], [11, 12, 13]), ([14, 11], [11, 14]), ([15, 11], [11, 15]), ([16, 11], [11, 16]), ([11], [11]), ([11], [11]), ([18, 19, 11], [11, 18, 19]), ([20, 11], [11, 20]), ([21, 11], [11, 21]), ([17, 22, 11], [11, 17, 22]), ([11, 23], [11, 23]), ([24, 11], [24]), ([25], [25]), ([25], [25]), ([26, 27, 25], [25, 26, 27]), ([28, 25], [25, 28]), ([29, 25], [25, 29]), ([30, 25, 25], [25, 30]), ([31, 25], [25, 31]), ([25, 32], [25, 32])])
def stratumlaw13_TableFits.B13 : List Nat := [0, 0, 3, 7, 15, 0, 0, 96, 224, 480, 1023, 2047, 4095, 4095, 16383, 32767, 65535, 131071, 4095, 4095, 790527, 1839103, 3936255, 8388607, 16777215, 33554431, 67108863, 67108863, 268435455, 536870911, 1073741823, 2147483647, 4294967295, 8589934591]
theorem stratumlaw13_TableFits.tab13 : rtab .any (opsOf Try.f17 13) = stratumlaw13_TableFits.T13 := by kernel_rfl
theorem stratumlaw13_TableFits.bits13 : waitsOk stratumlaw13_TableFits.T13.2 stratumlaw13_TableFits.B13 = true := by kernel_rfl
def stratumlaw13_TableFits.T19 : Bool × List (List Nat × List Nat) := (true, [([], []), ([], []), ([0, 1], [0, 1]), ([2], [2]), ([3], [3]), ([], []), ([], []), ([5, 6], [5, 6]), ([7], [7]), ([8], [8]), ([4, 9], [4, 9]), ([10], [10]), ([11], [11]), ([11], [11]), ([12, 13, 11], [11, 12, 13]), ([14, 11], [11, 14]), ([15, 11], [11, 15]), ([11], [11]), ([11], [11]), ([17, 18, 11], [11, 17, 18]), ([19, 11], [11, 19]), ([20, 11], [11, 20]), ([16, 21, 11], [11, 16, 21]), ([11, 22], [11, 22]), ([23, 11, 0, 1, 2, 3, 4, 5, 6, 7, 8, 9, 10, 11, 12, 13, 14, 15, 16, 17, 18, 19, 20, 21, 22, 23], [23])])
def stratumlaw13_TableFits.B19 : List Nat := [0, 0, 3, 7, 15, 0, 0, 96, 224, 480, 1023, 2047, 4095, 4095, 16383, 32767, 65535, 4095, 4095, 397311, 921599, 1970175, 4194303, 8388607, 16777215]
theorem stratumlaw13_TableFits.tab19 : rtab .any (opsOf Try.f17 19) = stratumlaw13_TableFits.T19 := by kernel_rfl
theorem stratumlaw13_TableFits.bits19 : waitsOk stratumlaw13_TableFits.T19.2 stratumlaw13_TableFits.B19 = true := by kernel_rfl
set_option maxHeartbeats 8000000 in
set_option maxRecDepth 100000 in
theorem stratumlaw13_TableFits.calls (k : Nat) (A0 : Option Addr) (c0 : Nat) (l0 : List (S35)) (A1 : Option Addr) (c1 : Nat) (l1 : List (S53)) (A2 : Option Addr) (c2 : Nat) (l2 : List (S35)) (r : Bool) (w : World) (hr0 : Kd.C k35 w A0 l0.length l0) (hc0 : l0.length ≤ c0) (hr1 : Kd.C k53 w A1 l1.length l1) (hc1 : l1.length ≤ c1) (hr2 : Kd.C k35 w A2 l2.length l2) (hc2 : l2.length ≤ c2) (h : stratumlaw13_TableFits.f k l0 l1 l2 = some r) (hr_ : Aside0 (r = true)) :
  Calls Try.prog 17 #[.slice A0 l0.length c0, .slice A1 l1.length c1, .slice A2 l2.length c2] w fun e w' => e = .returned (.bool r) ∧ Below w.heap.size w w' := by
 have hu51 := Try.underlying51
 have HR0 := Aside0.mk hr0
 have HC0 := Aside0.mk hc0
 clear hr0 hc0
 have HR1 := Aside0.mk hr1
 have HC1 := Aside0.mk hc1
 clear hr1 hc1
 have HR2 := Aside0.mk hr2
 have HC2 := Aside0.mk hc2
 clear hr2 hc2
 have HB := Aside0.mk (Below.refl w.heap.size w)
 have H : ((stratumlaw13_awake.f k).bind fun t882 => (if t882 = true then ((table_Typed.f k l0 l1).bind fun t883 => (if t883 = 0 then ((tlv_Encode.f k l1).bind fun bt893 => ((tlv_Decode.f k bt893.1).bind fun bt897 => (if bt893.2 = 0 then (if bt897.2 = 0 then ((table_Typed.f k l0 bt897.1).bind fun t901 => (if t901 = 0 then (stratumlaw13_TableFits.j0 k l0 l1 l2 ((l0.length : Int) != (l1.length : Int))) else (stratumlaw13_TableFits.j0 k l0 l1 l2 true))) else (stratumlaw13_TableFits.j0 k l0 l1 l2 true)) else (stratumlaw13_TableFits.j0 k l0 l1 l2 true)))) else (if t883 = 130 then (some true) else (if t883 = 2 then (if 0 ≤ (l0.length : Int) then (if 0 ≤ (l1.length : Int) then ((table_Typed.f k (l0.take 0) (l1.take 0)).bind fun t892 => (if t892 = 0 then (some ((l0.length : Int) == (l1.length : Int))) else (some false))) else (none)) else (none)) else (some false))))) else (some false))) = some r := h
 clear h
 replace H := Option.bind_eq_some_iff.mp H
 obtain ⟨t882, A40, H⟩ := H
 replace H : (if t882 = true then ((table_Typed.f k l0 l1).bind fun t883 => (if t883 = 0 then ((tlv_Encode.f k l1).bind fun bt893 => ((tlv_Decode.f k bt893.1).bind fun bt897 => (if bt893.2 = 0 then (if bt897.2 = 0 then ((table_Typed.f k l0 bt897.1).bind fun t901 => (if t901 = 0 then (stratumlaw13_TableFits.j0 k l0 l1 l2 ((l0.length : Int) != (l1.length : Int))) else (stratumlaw13_TableFits.j0 k l0 l1 l2 true))) else (stratumlaw13_TableFits.j0 k l0 l1 l2 true)) else (stratumlaw13_TableFits.j0 k l0 l1 l2 true)))) else (if t883 = 130 then (some true) else (if t883 = 2 then (if 0 ≤ (l0.length : Int) then (if 0 ≤ (l1.length : Int) then ((table_Typed.f k (l0.take 0) (l1.take 0)).bind fun t892 => (if t892 = 0 then (some ((l0.length : Int) == (l1.length : Int))) else (some false))) else (none)) else (none)) else (some false))))) else (some false)) = some r := H
 have A4 := Aside0.mk A40
 clear A40
 by_cases c5 : t882 = true
 ·subst c5
  have H1 : ((table_Typed.f k l0 l1).bind fun t883 => (if t883 = 0 then ((tlv_Encode.f k l1).bind fun bt893 => ((tlv_Decode.f k bt893.1).bind fun bt897 => (if bt893.2 = 0 then (if bt897.2 = 0 then ((table_Typed.f k l0 bt897.1).bind fun t901 => (if t901 = 0 then (stratumlaw13_TableFits.j0 k l0 l1 l2 ((l0.length : Int) != (l1.length : Int))) else (stratumlaw13_TableFits.j0 k l0 l1 l2 true))) else (stratumlaw13_TableFits.j0 k l0 l1 l2 true)) else (stratumlaw13_TableFits.j0 k l0 l1 l2 true)))) else (if t883 = 130 then (some true) else (if t883 = 2 then (if 0 ≤ (l0.length : Int) then (if 0 ≤ (l1.length : Int) then ((table_Typed.f k (l0.take 0) (l1.take 0)).bind fun t892 => (if t892 = 0 then (some ((l0.length : Int) == (l1.length : Int))) else (some false))) else (none)) else (none)) else (some false))))) = some r := by rw [if_pos rfl] at H; exact H
  clear H
  have H := H1
  clear H1
  replace H := Option.bind_eq_some_iff.mp H
  obtain ⟨t883, A60, H⟩ := H
  replace H : (if t883 = 0 then ((tlv_Encode.f k l1).bind fun bt893 => ((tlv_Decode.f k bt893.1).bind fun bt897 => (if bt893.2 = 0 then (if bt897.2 = 0 then ((table_Typed.f k l0 bt897.1).bind fun t901 => (if t901 = 0 then (stratumlaw13_TableFits.j0 k l0 l1 l2 ((l0.length : Int) != (l1.length : Int))) else (stratumlaw13_TableFits.j0 k l0 l1 l2 true))) else (stratumlaw13_TableFits.j0 k l0 l1 l2 true)) else (stratumlaw13_TableFits.j0 k l0 l1 l2 true)))) else (if t883 = 130 then (some true) else (if t883 = 2 then (if 0 ≤ (l0.length : Int) then (if 0 ≤ (l1.length : Int) then ((table_Typed.f k (l0.take 0) (l1.take 0)).bind fun t892 => (if t892 = 0 then (some ((l0.length : Int) == (l1.length : Int))) else (some false))) else (none)) else (none)) else (some false)))) = some r := H
  have A6 := Aside0.mk A60
  clear A60
  by_cases c7 : t883 = 0
  ·rw [if_pos c7] at H
   have c7b0 : (t883 == 0) = true := beq_iff_eq.mpr c7
   have c7b1 : (t883 != 0) = false := bne_eq_false_iff_eq.mpr c7
   clear c7
   replace H := Option.bind_eq_some_iff.mp H
   obtain ⟨⟨t893, t894⟩, A80, H⟩ := H
   replace H : ((tlv_Decode.f k t893).bind fun bt897 => (if t894 = 0 then (if bt897.2 = 0 then ((table_Typed.f k l0 bt897.1).bind fun t901 => (if t901 = 0 then (stratumlaw13_TableFits.j0 k l0 l1 l2 ((l0.length : Int) != (l1.length : Int))) else (stratumlaw13_TableFits.j0 k l0 l1 l2 true))) else (stratumlaw13_TableFits.j0 k l0 l1 l2 true)) else (stratumlaw13_TableFits.j0 k l0 l1 l2 true))) = some r := H
   have A8 := Aside0.mk A80
   clear A80
   replace H := Option.bind_eq_some_iff.mp H
   obtain ⟨⟨t897, t900⟩, A90, H⟩ := H
   replace H : (if t894 = 0 then (if t900 = 0 then ((table_Typed.f k l0 t897).bind fun t901 => (if t901 = 0 then (stratumlaw13_TableFits.j0 k l0 l1 l2 ((l0.length : Int) != (l1.length : Int))) else (stratumlaw13_TableFits.j0 k l0 l1 l2 true))) else (stratumlaw13_TableFits.j0 k l0 l1 l2 true)) else (stratumlaw13_TableFits.j0 k l0 l1 l2 true)) = some r := H
   have A9 := Aside0.mk A90
   clear A90
   have HC10 := Aside0.mk H
   clear H
   go_enter Try.func17, Try.ntmps17
   go_upto_region 8 with (first | ((with_reducible refine gate_callee (f := 18) rfl ?_); refine goesL_ (some 15) rfl rfl Try.func18 (by kernel_rfl) rfl #[] rfl (by (try simp only [List.map_toArray, List.map_cons, List.map_nil]); first | done | rfl | (simp only [List.length_drop, List.length_take]; rfl)) ?_; (with_reducible refine (stratumlaw13_awake.calls k  true _ A4.out).mono ?_); rintro e w11 ⟨rfl, hb⟩; refine ⟨_, rfl, ?_⟩; have n0_ := Aside0.mk (below_step (by repeat (first | (with_reducible first | exact HB.out | apply below_alloc | apply pw_below_drewN | apply below_drew1) | exact HB.out)) hb); clear HB; have HB := n0_; clear n0_; (try clear hb); (try clear hb2); (try clear hk); (try clear hi)) | ((with_reducible refine gate_callee (f := 26) rfl ?_); refine goesL_ (some 19) rfl rfl Try.func26 (by kernel_rfl) rfl #[.slice A0 l0.length c0, .slice A1 l1.length c1] rfl (by (try simp only [List.map_toArray, List.map_cons, List.map_nil]); first | done | rfl | (simp only [List.length_drop, List.length_take]; rfl)) ?_; (with_reducible refine (table_Typed.calls k _ _ l0 _ _ l1 t883 _ ?side1 ?side2 ?side3 ?side4 A6.out).mono ?_); (case side1 => repeat (first | exact (Kd.C_below HR0.out HB.out) | (with_reducible refine Kd.C_alloc ?_ _) | (with_reducible refine Kd.C_drewN ?_ _) | (with_reducible refine Kd.C_drew ?_))); (case side2 => exact HC0.out); (case side3 => repeat (first | exact (Kd.C_below HR1.out HB.out) | (with_reducible refine Kd.C_alloc ?_ _) | (with_reducible refine Kd.C_drewN ?_ _) | (with_reducible refine Kd.C_drew ?_))); (case side4 => exact HC1.out); rintro e w12 ⟨rfl, hb⟩; refine ⟨_, rfl, ?_⟩; have n0_ := Aside0.mk (below_step (by repeat (first | (with_reducible first | exact HB.out | apply below_alloc | apply pw_below_drewN | apply below_drew1) | exact HB.out)) hb); clear HB; have HB := n0_; clear n0_; (try clear hb); (try clear hb2); (try clear hk); (try clear hi)) | ((with_reducible refine gate_callee (f := 35) rfl ?_); refine goesL_ (some 45) rfl rfl Try.func35 (by kernel_rfl) rfl #[.slice A1 l1.length c1] rfl (by (try simp only [List.map_toArray, List.map_cons, List.map_nil]); first | done | rfl | (simp only [List.length_drop, List.length_take]; rfl)) ?_; (with_reducible refine (tlv_Encode.calls k _ _ l1 t893 t894 _ ?side1 ?side2 A8.out).mono ?_); (case side1 => repeat (first | exact (Kd.C_below HR1.out HB.out) | (with_reducible refine Kd.C_alloc ?_ _) | (with_reducible refine Kd.C_drewN ?_ _) | (with_reducible refine Kd.C_drew ?_))); (case side2 => exact HC1.out); rintro e w13 ⟨v895, rfl, ho0, hb⟩; refine ⟨_, rfl, ?_⟩; have n0_ := Aside0.mk (Kd.R_lower ho0 (below_size (by repeat (first | (with_reducible first | exact HB.out | apply below_alloc | apply pw_below_drewN | apply below_drew1) | exact HB.out)))); have n1_ := Aside0.mk (below_step (by repeat (first | (with_reducible first | exact HB.out | apply below_alloc | apply pw_below_drewN | apply below_drew1) | exact HB.out)) hb); clear HB; have HO896 := n0_; have HB := n1_; clear n0_ n1_; (try clear hb); (try clear hb2); (try clear hk); (try clear hi); (try clear ho0); obtain ⟨Ao14, co14, eo14⟩ := Kd.R_slice HO896.out; subst eo14) | ((with_reducible refine gate_callee (f := 40) rfl ?_); refine goesL_ (some 50) rfl rfl Try.func40 (by kernel_rfl) rfl #[.slice Ao14 t893.length co14] rfl (by (try simp only [List.map_toArray, List.map_cons, List.map_nil]); first | done | rfl | (simp only [List.length_drop, List.length_take]; rfl)) ?_; (with_reducible refine (tlv_Decode.calls k (fun k_ => some k_ = (.slice Ao14 t893.length co14 : Value).ownBlock) _ _ t893 t897 t900 _ ?side1 A9.out).mono ?_); (case side1 => exact Kd.R_V (Kd.R_tight rfl (HO896.out))); rintro e w15 ⟨v898, rfl, ho0, hb⟩; refine ⟨_, rfl, ?_⟩; have n0_ := Aside0.mk (Kd.R_below (by (with_reducible repeat (first | apply Kd.R_alloc | apply Kd.R_drewN | apply Kd.R_drew)); exact HO896.out) hb); have n1_ := Aside0.mk (Kd.R_lower (Kd.R_mono (ok' := fun k_ => True) ho0 (fun _ hk_ => trivial)) (below_size (by repeat (first | (with_reducible first | exact HB.out | apply below_alloc | apply pw_below_drewN | apply below_drew1) | exact HB.out)))); have n2_ := Aside0.mk (below_step (by repeat (first | (with_reducible first | exact HB.out | apply below_alloc | apply pw_below_drewN | apply below_drew1) | exact HB.out)) hb); clear HO896; clear HB; have HO896 := n0_; have HO899 := n1_; have HB := n2_; clear n0_ n1_ n2_; (try clear hb); (try clear hb2); (try clear hk); (try clear hi); (try clear ho0)))
   (try simp only [Act.put, List.setIfInBounds_toArray, List.set_cons_zero, List.set_cons_succ])
   go_cut [71] (fun v71 wc => ∃ (kq : Nat) (x71_9 : Bool), v71 = .bool x71_9 ∧ Aside0 (stratumlaw13_TableFits.j0 kq l0 l1 l2 x71_9 = some r) ∧ Aside0 (kq ≤ k) ∧ Aside0 (Below w.heap.size w wc))
   case first =>
    have H := HC10.out
    clear HC10
    by_cases c16 : t894 = 0
    ·rw [if_pos c16] at H
     have c16b0 : (t894 == 0) = true := beq_iff_eq.mpr c16
     have c16b1 : (t894 != 0) = false := bne_eq_false_iff_eq.mpr c16
     clear c16
     (first | rw [c16b0] | (simp only [i64_w, i32_w]; rw [c16b0]) | skip)
     by_cases c17 : t900 = 0
     ·rw [if_pos c17] at H
      have c17b0 : (t900 == 0) = true := beq_iff_eq.mpr c17
      have c17b1 : (t900 != 0) = false := bne_eq_false_iff_eq.mpr c17
      clear c17
      replace H := Option.bind_eq_some_iff.mp H
      obtain ⟨t901, A180, H⟩ := H
      replace H : (if t901 = 0 then (stratumlaw13_TableFits.j0 k l0 l1 l2 ((l0.length : Int) != (l1.length : Int))) else (stratumlaw13_TableFits.j0 k l0 l1 l2 true)) = some r := H
      have A18 := Aside0.mk A180
      clear A180
      by_cases c19 : t901 = 0
      ·rw [if_pos c19] at H
       have c19b0 : (t901 == 0) = true := beq_iff_eq.mpr c19
       have c19b1 : (t901 != 0) = false := bne_eq_false_iff_eq.mpr c19
       clear c19
       have H' := Aside0.mk H
       clear H
       obtain ⟨Ao20, co20, eo20⟩ := Kd.R_slice HO899.out
       subst eo20
       go_wp2_with (first | (go_at_call 26; (with_reducible refine (table_Typed.calls k _ _ l0 _ _ t897 t901 _ ?side1 ?side2 ?side3 ?side4 A18.out).mono ?_); (case side1 => repeat (first | exact (Kd.C_below HR0.out HB.out) | (with_reducible refine Kd.C_alloc ?_ _) | (with_reducible refine Kd.C_drewN ?_ _) | (with_reducible refine Kd.C_drew ?_))); (case side2 => exact HC0.out); (case side3 => repeat (first | exact (Kd.R_reads' HO899.out).2.2 | (with_reducible refine Kd.C_alloc ?_ _) | (with_reducible refine Kd.C_drewN ?_ _) | (with_reducible refine Kd.C_drew ?_))); (case side4 => exact (Kd.R_reads' HO899.out).2.1); rintro e w21 ⟨rfl, hb⟩; have n0_ := Aside0.mk (Kd.R_below (by (with_reducible repeat (first | apply Kd.R_alloc | apply Kd.R_drewN | apply Kd.R_drew)); exact HO896.out) hb); have n1_ := Aside0.mk (Kd.R_below (by (with_reducible repeat (first | apply Kd.R_alloc | apply Kd.R_drewN | apply Kd.R_drew)); exact HO899.out) hb); have n2_ := Aside0.mk (below_step (by repeat (first | (with_reducible first | exact HB.out | apply below_alloc | apply pw_below_drewN | apply below_drew1) | exact HB.out)) hb); clear HO896; clear HO899; clear HB; have HO896 := n0_; have HO899 := n1_; have HB := n2_; clear n0_ n1_ n2_; (try clear hb); (try clear hb2); (try clear hk); (try clear hi)))
       go_meet
       case rel => exact ⟨_, (((l0.length : Int) != (l1.length : Int))), (by first | rfl | (simp; done) | (simp [*]; done)), H', ⟨by first | omega | exact Nat.le_refl _⟩, ⟨by repeat (first | (with_reducible first | exact HB.out | apply below_alloc | apply pw_below_drewN | apply below_drew1) | exact HB.out)⟩⟩
      ·rw [if_neg c19] at H
       have c19b0 : (t901 == 0) = false := beq_eq_false_iff_ne.mpr c19
       have c19b1 : (t901 != 0) = true := bne_iff_ne.mpr c19
       have H' := Aside0.mk H
       clear H
       obtain ⟨Ao22, co22, eo22⟩ := Kd.R_slice HO899.out
       subst eo22
       go_wp2_with (first | (go_at_call 26; (with_reducible refine (table_Typed.calls k _ _ l0 _ _ t897 t901 _ ?side1 ?side2 ?side3 ?side4 A18.out).mono ?_); (case side1 => repeat (first | exact (Kd.C_below HR0.out HB.out) | (with_reducible refine Kd.C_alloc ?_ _) | (with_reducible refine Kd.C_drewN ?_ _) | (with_reducible refine Kd.C_drew ?_))); (case side2 => exact HC0.out); (case side3 => repeat (first | exact (Kd.R_reads' HO899.out).2.2 | (with_reducible refine Kd.C_alloc ?_ _) | (with_reducible refine Kd.C_drewN ?_ _) | (with_reducible refine Kd.C_drew ?_))); (case side4 => exact (Kd.R_reads' HO899.out).2.1); rintro e w23 ⟨rfl, hb⟩; have n0_ := Aside0.mk (Kd.R_below (by (with_reducible repeat (first | apply Kd.R_alloc | apply Kd.R_drewN | apply Kd.R_drew)); exact HO896.out) hb); have n1_ := Aside0.mk (Kd.R_below (by (with_reducible repeat (first | apply Kd.R_alloc | apply Kd.R_drewN | apply Kd.R_drew)); exact HO899.out) hb); have n2_ := Aside0.mk (below_step (by repeat (first | (with_reducible first | exact HB.out | apply below_alloc | apply pw_below_drewN | apply below_drew1) | exact HB.out)) hb); clear HO896; clear HO899; clear HB; have HO896 := n0_; have HO899 := n1_; have HB := n2_; clear n0_ n1_ n2_; (try clear hb); (try clear hb2); (try clear hk); (try clear hi)))
       go_meet
       case rel => exact ⟨_, (true), (by first | rfl | (simp; done) | (simp [*]; done)), H', ⟨by first | omega | exact Nat.le_refl _⟩, ⟨by repeat (first | (with_reducible first | exact HB.out | apply below_alloc | apply pw_below_drewN | apply below_drew1) | exact HB.out)⟩⟩
     ·rw [if_neg c17] at H
      have c17b0 : (t900 == 0) = false := beq_eq_false_iff_ne.mpr c17
      have c17b1 : (t900 != 0) = true := bne_iff_ne.mpr c17
      have H' := Aside0.mk H
      clear H
      go_wp2
      go_meet
      case rel => exact ⟨_, (true), (by first | rfl | (simp; done) | (simp [*]; done)), H', ⟨by first | omega | exact Nat.le_refl _⟩, ⟨by repeat (first | (with_reducible first | exact HB.out | apply below_alloc | apply pw_below_drewN | apply below_drew1) | exact HB.out)⟩⟩
    ·rw [if_neg c16] at H
     have c16b0 : (t894 == 0) = false := beq_eq_false_iff_ne.mpr c16
     have c16b1 : (t894 != 0) = true := bne_iff_ne.mpr c16
     (first | rw [c16b0] | (simp only [i64_w, i32_w]; rw [c16b0]) | skip)
     have H' := Aside0.mk H
     clear H
     go_wp2
     go_meet
     case rel => exact ⟨_, (true), (by first | rfl | (simp; done) | (simp [*]; done)), H', ⟨by first | omega | exact Nat.le_refl _⟩, ⟨by repeat (first | (with_reducible first | exact HB.out | apply below_alloc | apply pw_below_drewN | apply below_drew1) | exact HB.out)⟩⟩
   case rest =>
    clear HC10
    try clear c1
    try clear c2
    try clear p2
    try clear c3
    try clear c4
    try clear c5
    try clear c7
    try clear c7b0
    try clear c7b1
    try clear c16
    try clear c16b0
    try clear c16b1
    try clear c17
    try clear c17b0
    try clear c17b1
    try clear c18
    try clear c19
    try clear c19b0
    try clear c19b1
    obtain ⟨kq, x71_9, rfl, HA, HJ9, HB⟩ := hcut
    cases kq with
    | zero => exact absurd HA.out (by simp [stratumlaw13_TableFits.j0])
    | succ kj9 =>
     have H := HA.out
     clear HA
     simp only [stratumlaw13_TableFits.j0] at H
     by_cases c24 : x71_9 = true
     ·subst c24
      have H1 : (some false) = some r := by rw [if_pos rfl] at H; exact H
      clear H
      have H := H1
      clear H1
      exact absurd ((Option.some.inj H).trans hr_.out) (by simp)
     ·replace c24 := Bool.eq_false_iff.mpr c24
      subst c24
      have H1 : (stratumlaw13_TableFits.l0 kj9 l0 l1 l2 0) = some r := by rw [if_neg (show ¬ (false = true) by decide)] at H; exact H
      clear H
      have H := H1
      clear H1
      have H' := Aside0.mk H
      clear H
      go_wp2
      go_loopg [12] kj9 (fun kq v12 w' => ∃ (x12_2 : Int), v12 = .int .i64 x12_2 ∧ Aside0 (stratumlaw13_TableFits.l0 kq l0 l1 l2 x12_2 = some r) ∧ Aside0 (kq ≤ kj9) ∧ Aside0 (Below w.heap.size w w'))
      case atStart => exact ⟨(0), (by first | rfl | (simp; done) | (simp [*]; done)), H', ⟨Nat.le_refl _⟩, ⟨by repeat (first | (with_reducible first | exact HB.out | apply below_alloc | apply pw_below_drewN | apply below_drew1) | exact HB.out)⟩⟩
      case round =>
       clear H'
       try clear c1
       try clear c2
       try clear p2
       try clear c3
       try clear c4
       try clear c5
       try clear c7
       try clear c7b0
       try clear c7b1
       try clear c16
       try clear c16b0
       try clear c16b1
       try clear c17
       try clear c17b0
       try clear c17b1
       try clear c18
       try clear c19
       try clear c19b0
       try clear c19b1
       try clear c24
       try clear p2
       obtain ⟨x12_2, rfl, HA, HK2, HB⟩ := hrel
       cases gk with
       | zero => exact absurd HA.out (by simp [stratumlaw13_TableFits.l0])
       | succ k2 =>
        have H := HA.out
        clear HA
        simp only [stratumlaw13_TableFits.l0] at H
        by_cases c25 : x12_2 < (l1.length : Int)
        ·rw [if_pos c25] at H
         have c25b0 : decide (x12_2 < (l1.length : Int)) = true := decide_eq_true c25
         clear c25
         have HC26 := Aside0.mk H
         clear H
         go_upto_region 13 with (fail)
         go_cut [111] (fun v111 wc => ∃ (kq : Nat) (x111_25 : Bool), v111 = .bool x111_25 ∧ Aside0 (stratumlaw13_TableFits.j2 kq l0 l1 l2 x12_2 x111_25 = some r) ∧ Aside0 (kq ≤ k2) ∧ Aside0 (Below w.heap.size w wc))
         case first =>
          have H := HC26.out
          clear HC26
          by_cases c27 : 0 ≤ x12_2
          ·rw [if_pos c27] at H
           have c27b0 : decide (0 ≤ x12_2) = true := decide_eq_true c27
           clear c27
           (first | rw [c27b0] | (simp only [i64_w, i32_w]; rw [c27b0]) | skip)
           by_cases c28 : x12_2 < (l0.length : Int)
           ·rw [if_pos c28] at H
            have c28b0 : decide (x12_2 < (l0.length : Int)) = true := decide_eq_true c28
            clear c28
            by_cases c29 : ((rd_T53 l1 x12_2).f0) = ((rd_T35 l0 x12_2).f1)
            ·rw [if_pos c29] at H
             have c29b0 : (((rd_T53 l1 x12_2).f0) == ((rd_T35 l0 x12_2).f1)) = true := beq_iff_eq.mpr c29
             have c29b1 : (((rd_T53 l1 x12_2).f0) != ((rd_T35 l0 x12_2).f1)) = false := bne_eq_false_iff_eq.mpr c29
             clear c29
             by_cases c30 : ((rd_T53 l1 x12_2).f1.f0) = ((rd_T35 l0 x12_2).f2)
             ·rw [if_pos c30] at H
              have c30b0 : (((rd_T53 l1 x12_2).f1.f0) == ((rd_T35 l0 x12_2).f2)) = true := beq_iff_eq.mpr c30
              have c30b1 : (((rd_T53 l1 x12_2).f1.f0) != ((rd_T35 l0 x12_2).f2)) = false := bne_eq_false_iff_eq.mpr c30
              clear c30
              replace H := Option.bind_eq_some_iff.mp H
              obtain ⟨t907, A310, H⟩ := H
              replace H : (stratumlaw13_TableFits.j2 k2 l0 l1 l2 x12_2 (!t907)) = some r := H
              have A31 := Aside0.mk A310
              clear A310
              have H' := Aside0.mk H
              clear H
              try go_wp2
              have n0_ := Aside0.mk (below_drew1 HB.out)
              clear HB
              have HB := n0_
              clear n0_
              have p902 : 0 ≤ (x12_2 : Int) := of_decide_eq_true (by first | (with_reducible assumption) | assumption)
              have q902 : x12_2 < (l1.length : Int) := of_decide_eq_true (by first | (with_reducible assumption) | assumption)
              obtain ⟨ad902, e902, hx902_0, hx902_1, hx902_2, hx902_3⟩ := at_T53 HR1.out x12_2 p902 q902
              have hw902_3 := hx902_3
              have hw902_2 := hx902_2
              have hw902_1 := hx902_1
              have hw902_0 := hx902_0
              cases e902
              replace hx902_0 := (HB.out.cell (World.block_lt_of_cell? w _ hx902_0)).trans hx902_0
              replace hx902_1 := (HB.out.cell (World.block_lt_of_cell? w _ hx902_1)).trans hx902_1
              replace hx902_2 := (HB.out.cell (World.block_lt_of_cell? w _ hx902_2)).trans hx902_2
              replace hx902_3 := (HB.out.cell (World.block_lt_of_cell? w _ hx902_3)).trans hx902_3
              replace p902 := eq_true p902
              replace q902 := eq_true q902
              have p903 : 0 ≤ (x12_2 : Int) := of_decide_eq_true (by first | (with_reducible assumption) | assumption)
              have q903 : x12_2 < (l0.length : Int) := of_decide_eq_true (by first | (with_reducible assumption) | assumption)
              obtain ⟨ad903, e903, hx903_0, hx903_1, hx903_2⟩ := at_T35 HR0.out x12_2 p903 q903
              have hw903_2 := hx903_2
              have hw903_1 := hx903_1
              have hw903_0 := hx903_0
              cases e903
              replace hx903_0 := (HB.out.cell (World.block_lt_of_cell? w _ hx903_0)).trans hx903_0
              replace hx903_1 := (HB.out.cell (World.block_lt_of_cell? w _ hx903_1)).trans hx903_1
              replace hx903_2 := (HB.out.cell (World.block_lt_of_cell? w _ hx903_2)).trans hx903_2
              replace p903 := eq_true p903
              replace q903 := eq_true q903
              have p904 : 0 ≤ (x12_2 : Int) := of_decide_eq_true (by first | (with_reducible assumption) | assumption)
              have q904 : x12_2 < (l1.length : Int) := of_decide_eq_true (by first | (with_reducible assumption) | assumption)
              obtain ⟨ad904, e904, hx904_0, hx904_1, hx904_2, hx904_3⟩ := at_T53 HR1.out x12_2 p904 q904
              have hw904_3 := hx904_3
              have hw904_2 := hx904_2
              have hw904_1 := hx904_1
              have hw904_0 := hx904_0
              obtain rfl : ad902 = ad904 := (by injection e904)
              replace hx904_0 := (HB.out.cell (World.block_lt_of_cell? w _ hx904_0)).trans hx904_0
              replace hx904_1 := (HB.out.cell (World.block_lt_of_cell? w _ hx904_1)).trans hx904_1
              replace hx904_2 := (HB.out.cell (World.block_lt_of_cell? w _ hx904_2)).trans hx904_2
              replace hx904_3 := (HB.out.cell (World.block_lt_of_cell? w _ hx904_3)).trans hx904_3
              replace p904 := eq_true p904
              replace q904 := eq_true q904
              have p905 : 0 ≤ (x12_2 : Int) := of_decide_eq_true (by first | (with_reducible assumption) | assumption)
              have q905 : x12_2 < (l0.length : Int) := of_decide_eq_true (by first | (with_reducible assumption) | assumption)
              obtain ⟨ad905, e905, hx905_0, hx905_1, hx905_2⟩ := at_T35 HR0.out x12_2 p905 q905
              have hw905_2 := hx905_2
              have hw905_1 := hx905_1
              have hw905_0 := hx905_0
              obtain rfl : ad903 = ad905 := (by injection e905)
              replace hx905_0 := (HB.out.cell (World.block_lt_of_cell? w _ hx905_0)).trans hx905_0
              replace hx905_1 := (HB.out.cell (World.block_lt_of_cell? w _ hx905_1)).trans hx905_1
              replace hx905_2 := (HB.out.cell (World.block_lt_of_cell? w _ hx905_2)).trans hx905_2
              replace p905 := eq_true p905
              replace q905 := eq_true q905
              have p906 : 0 ≤ (x12_2 : Int) := of_decide_eq_true (by first | (with_reducible assumption) | assumption)
              have q906 : x12_2 < (l1.length : Int) := of_decide_eq_true (by first | (with_reducible assumption) | assumption)
              obtain ⟨ad906, e906, hx906_0, hx906_1, hx906_2, hx906_3⟩ := at_T53 HR1.out x12_2 p906 q906
              have hw906_3 := hx906_3
              have hw906_2 := hx906_2
              have hw906_1 := hx906_1
              have hw906_0 := hx906_0
              obtain rfl : ad902 = ad906 := (by injection e906)
              replace hx906_0 := (HB.out.cell (World.block_lt_of_cell? w _ hx906_0)).trans hx906_0
              replace hx906_1 := (HB.out.cell (World.block_lt_of_cell? w _ hx906_1)).trans hx906_1
              replace hx906_2 := (HB.out.cell (World.block_lt_of_cell? w _ hx906_2)).trans hx906_2
              replace hx906_3 := (HB.out.cell (World.block_lt_of_cell? w _ hx906_3)).trans hx906_3
              replace p906 := eq_true p906
              replace q906 := eq_true q906
              refine start_ (n := 34) (S := fun w' => w'.cell? (ad902.add ((x12_2).toNat * 4)) = some (.int .i64 ((rd_T53 l1 x12_2).f0)) ∧ w'.cell? ⟨(ad902.add ((x12_2).toNat * 4)).block, (ad902.add ((x12_2).toNat * 4)).off + 1, none⟩ = some (.int .i64 ((rd_T53 l1 x12_2).f1.f0)) ∧ w'.cell? ⟨(ad902.add ((x12_2).toNat * 4)).block, (ad902.add ((x12_2).toNat * 4)).off + 2, none⟩ = some (.int .u64 ((rd_T53 l1 x12_2).f1.f1)) ∧ w'.cell? ⟨(ad902.add ((x12_2).toNat * 4)).block, (ad902.add ((x12_2).toNat * 4)).off + 3, none⟩ = some (.string ((rd_T53 l1 x12_2).f1.f2)) ∧ w'.cell? (ad903.add ((x12_2).toNat * 3)) = some (.string ((rd_T35 l0 x12_2).f0)) ∧ w'.cell? ⟨(ad903.add ((x12_2).toNat * 3)).block, (ad903.add ((x12_2).toNat * 3)).off + 1, none⟩ = some (.int .i64 ((rd_T35 l0 x12_2).f1)) ∧ w'.cell? ⟨(ad903.add ((x12_2).toNat * 3)).block, (ad903.add ((x12_2).toNat * 3)).off + 2, none⟩ = some (.int .i64 ((rd_T35 l0 x12_2).f2)) ∧ w'.cell? (ad902.add ((x12_2).toNat * 4)) = some (.int .i64 ((rd_T53 l1 x12_2).f0)) ∧ w'.cell? ⟨(ad902.add ((x12_2).toNat * 4)).block, (ad902.add ((x12_2).toNat * 4)).off + 1, none⟩ = some (.int .i64 ((rd_T53 l1 x12_2).f1.f0)) ∧ w'.cell? ⟨(ad902.add ((x12_2).toNat * 4)).block, (ad902.add ((x12_2).toNat * 4)).off + 2, none⟩ = some (.int .u64 ((rd_T53 l1 x12_2).f1.f1)) ∧ w'.cell? ⟨(ad902.add ((x12_2).toNat * 4)).block, (ad902.add ((x12_2).toNat * 4)).off + 3, none⟩ = some (.string ((rd_T53 l1 x12_2).f1.f2)) ∧ w'.cell? (ad903.add ((x12_2).toNat * 3)) = some (.string ((rd_T35 l0 x12_2).f0)) ∧ w'.cell? ⟨(ad903.add ((x12_2).toNat * 3)).block, (ad903.add ((x12_2).toNat * 3)).off + 1, none⟩ = some (.int .i64 ((rd_T35 l0 x12_2).f1)) ∧ w'.cell? ⟨(ad903.add ((x12_2).toNat * 3)).block, (ad903.add ((x12_2).toNat * 3)).off + 2, none⟩ = some (.int .i64 ((rd_T35 l0 x12_2).f2)) ∧ w'.cell? (ad902.add ((x12_2).toNat * 4)) = some (.int .i64 ((rd_T53 l1 x12_2).f0)) ∧ w'.cell? ⟨(ad902.add ((x12_2).toNat * 4)).block, (ad902.add ((x12_2).toNat * 4)).off + 1, none⟩ = some (.int .i64 ((rd_T53 l1 x12_2).f1.f0)) ∧ w'.cell? ⟨(ad902.add ((x12_2).toNat * 4)).block, (ad902.add ((x12_2).toNat * 4)).off + 2, none⟩ = some (.int .u64 ((rd_T53 l1 x12_2).f1.f1)) ∧ w'.cell? ⟨(ad902.add ((x12_2).toNat * 4)).block, (ad902.add ((x12_2).toNat * 4)).off + 3, none⟩ = some (.string ((rd_T53 l1 x12_2).f1.f2))) (ds := []) ⟨mk_ 34 0⟩ (by kernel_rfl) rfl rfl ⟨((HB.out.cell (World.block_lt_of_cell? w _ hw902_0)).trans hw902_0), ((HB.out.cell (World.block_lt_of_cell? w _ hw902_1)).trans hw902_1), ((HB.out.cell (World.block_lt_of_cell? w _ hw902_2)).trans hw902_2), ((HB.out.cell (World.block_lt_of_cell? w _ hw902_3)).trans hw902_3), ((HB.out.cell (World.block_lt_of_cell? w _ hw903_0)).trans hw903_0), ((HB.out.cell (World.block_lt_of_cell? w _ hw903_1)).trans hw903_1), ((HB.out.cell (World.block_lt_of_cell? w _ hw903_2)).trans hw903_2), ((HB.out.cell (World.block_lt_of_cell? w _ hw904_0)).trans hw904_0), ((HB.out.cell (World.block_lt_of_cell? w _ hw904_1)).trans hw904_1), ((HB.out.cell (World.block_lt_of_cell? w _ hw904_2)).trans hw904_2), ((HB.out.cell (World.block_lt_of_cell? w _ hw904_3)).trans hw904_3), ((HB.out.cell (World.block_lt_of_cell? w _ hw905_0)).trans hw905_0), ((HB.out.cell (World.block_lt_of_cell? w _ hw905_1)).trans hw905_1), ((HB.out.cell (World.block_lt_of_cell? w _ hw905_2)).trans hw905_2), ((HB.out.cell (World.block_lt_of_cell? w _ hw906_0)).trans hw906_0), ((HB.out.cell (World.block_lt_of_cell? w _ hw906_1)).trans hw906_1), ((HB.out.cell (World.block_lt_of_cell? w _ hw906_2)).trans hw906_2), ((HB.out.cell (World.block_lt_of_cell? w _ hw906_3)).trans hw906_3)⟩ (fun hHeld => ?_); refine with_tabW stratumlaw13_TableFits.tab13 stratumlaw13_TableFits.bits13 (fun HT_ HW_ => ?_)
              generalize wr.drew = w32 at HB hx902_0 hx902_1 hx902_2 hx902_3 hx903_0 hx903_1 hx903_2 hx904_0 hx904_1 hx904_2 hx904_3 hx905_0 hx905_1 hx905_2 hx906_0 hx906_1 hx906_2 hx906_3 hHeld ⊢
              refine pure_ (i := 0) (N := some 78) (v := ?_) (a' := ?_) ⟨mk_ 34 1⟩ rfl rfl (any_of HT_.out (by kernel_rfl)) (fun _ _ _ h => h) (Or.inl ⟨by rfl, ?_⟩) ?_ ?_
              rotate_left
              ·intro w'
               go_simp
               with_reducible rfl
              rotate_left
              ·simp only [Act.put, List.setIfInBounds_toArray, List.set_cons_zero, List.set_cons_succ, i64_w, i32_w]
               rfl
              refine pure_ (i := 1) (N := some 79) (v := ?_) (a' := ?_) ⟨mk_ 34 3⟩ rfl rfl (any_of HT_.out (by kernel_rfl)) (fun _ _ _ h => h) (Or.inl ⟨by rfl, ?_⟩) ?_ ?_
              rotate_left
              ·intro w'
               go_simp
               with_reducible rfl
              rotate_left
              ·simp only [Act.put, List.setIfInBounds_toArray, List.set_cons_zero, List.set_cons_succ, i64_w, i32_w]
               rfl
              refine pure_ (i := 2) (N := some 80) (v := ?_) (a' := ?_) ⟨mk_ 34 7⟩ rfl rfl (any_of HT_.out (by kernel_rfl)) (fun _ _ _ h => h) (Or.inl ⟨by rfl, ?_⟩) ?_ ?_
              rotate_left
              ·intro w'
               go_simp
               with_reducible rfl
              rotate_left
              ·simp only [Act.put, List.setIfInBounds_toArray, List.set_cons_zero, List.set_cons_succ, i64_w, i32_w]
               rfl
              refine pure_ (i := 3) (N := some 81) (v := ?_) (a' := ?_) ⟨mk_ 34 15⟩ rfl rfl (any_of HT_.out (by kernel_rfl)) (fun _ _ _ h => h) (Or.inl ⟨by rfl, ?_⟩) ?_ ?_
              rotate_left
              ·intro w'
               go_simp
               with_reducible rfl
              rotate_left
              ·simp only [Act.put, List.setIfInBounds_toArray, List.set_cons_zero, List.set_cons_succ, i64_w, i32_w]
               rfl
              refine pure_ (i := 5) (N := some 83) (v := ?_) (a' := ?_) ⟨mk_ 34 47⟩ rfl rfl (any_of HT_.out (by kernel_rfl)) (fun _ _ _ h => h) (Or.inl ⟨by rfl, ?_⟩) ?_ ?_
              rotate_left
              ·intro w'
               go_simp
               with_reducible rfl
              rotate_left
              ·simp only [Act.put, List.setIfInBounds_toArray, List.set_cons_zero, List.set_cons_succ, i64_w, i32_w]
               rfl
              refine pure_ (i := 6) (N := some 84) (v := ?_) (a' := ?_) ⟨mk_ 34 111⟩ rfl rfl (any_of HT_.out (by kernel_rfl)) (fun _ _ _ h => h) (Or.inl ⟨by rfl, ?_⟩) ?_ ?_
              rotate_left
              ·intro w'
               go_simp
               with_reducible rfl
              rotate_left
              ·simp only [Act.put, List.setIfInBounds_toArray, List.set_cons_zero, List.set_cons_succ, i64_w, i32_w]
               rfl
              refine pure_ (i := 7) (N := some 85) (v := ?_) (a' := ?_) ⟨mk_ 34 239⟩ rfl rfl (any_of HT_.out (by kernel_rfl)) (fun _ _ _ h => h) (Or.inl ⟨by rfl, ?_⟩) ?_ ?_
              rotate_left
              ·intro w'
               go_simp
               with_reducible rfl
              rotate_left
              ·simp only [Act.put, List.setIfInBounds_toArray, List.set_cons_zero, List.set_cons_succ, i64_w, i32_w]
               rfl
              refine pure_ (i := 8) (N := some 86) (v := ?_) (a' := ?_) ⟨mk_ 34 495⟩ rfl rfl (any_of HT_.out (by kernel_rfl)) (fun _ _ _ h => h) (Or.inl ⟨by rfl, ?_⟩) ?_ ?_
              rotate_left
              ·intro w'
               go_simp
               with_reducible rfl
              rotate_left
              ·simp only [Act.put, List.setIfInBounds_toArray, List.set_cons_zero, List.set_cons_succ, i64_w, i32_w]
               rfl
              refine take_ (i := 4) (N := some 82) (v := ?_) (a' := ?_) ⟨mk_ 34 511⟩ rfl rfl (take_ofW HT_.out HW_.out (by kernel_rfl)) (fun _ _ _ h => h) (Or.inl ⟨by rfl, ?_⟩) hHeld ?_ ?_
              rotate_left
              ·rintro w' ⟨s0, s1, s2, s3, s4, s5, s6, s7, s8, s9, s10, s11, s12, s13, s14, s15, s16, s17⟩
               go_simp
               with_reducible rfl
              rotate_left
              ·simp only [Act.put, List.setIfInBounds_toArray, List.set_cons_zero, List.set_cons_succ, i64_w, i32_w]
               rfl
              refine take_ (i := 9) (N := some 87) (v := ?_) (a' := ?_) ⟨mk_ 34 1023⟩ rfl rfl (take_ofW HT_.out HW_.out (by kernel_rfl)) (fun _ _ _ h => h) (Or.inl ⟨by rfl, ?_⟩) hHeld ?_ ?_
              rotate_left
              ·rintro w' ⟨s0, s1, s2, s3, s4, s5, s6, s7, s8, s9, s10, s11, s12, s13, s14, s15, s16, s17⟩
               go_simp
               with_reducible rfl
              rotate_left
              ·simp only [Act.put, List.setIfInBounds_toArray, List.set_cons_zero, List.set_cons_succ, i64_w, i32_w]
               rfl
              refine pure_ (i := 10) (N := some 88) (v := ?_) (a' := ?_) ⟨mk_ 34 2047⟩ rfl rfl (any_of HT_.out (by kernel_rfl)) (fun _ _ _ h => h) (Or.inl ⟨by rfl, ?_⟩) ?_ ?_
              rotate_left
              ·intro w'
               go_simp
               with_reducible rfl
              rotate_left
              ·simp only [Act.put, List.setIfInBounds_toArray, List.set_cons_zero, List.set_cons_succ, i64_w, i32_w]
               rfl
              refine pure_ (i := 11) (N := some 89) (v := ?_) (a' := ?_) ⟨mk_ 34 4095⟩ rfl rfl (any_of HT_.out (by kernel_rfl)) (fun _ _ _ h => h) (Or.inl ⟨by rfl, ?_⟩) ?_ ?_
              rotate_left
              ·intro w'
               go_simp
               with_reducible rfl
              rotate_left
              ·simp only [Act.put, List.setIfInBounds_toArray, List.set_cons_zero, List.set_cons_succ, i64_w, i32_w]
               rfl
              refine pure_ (i := 12) (N := some 90) (v := ?_) (a' := ?_) ⟨mk_ 34 8191⟩ rfl rfl (any_of HT_.out (by kernel_rfl)) (fun _ _ _ h => h) (Or.inl ⟨by rfl, ?_⟩) ?_ ?_
              rotate_left
              ·intro w'
               go_simp
               with_reducible rfl
              rotate_left
              ·simp only [Act.put, List.setIfInBounds_toArray, List.set_cons_zero, List.set_cons_succ, i64_w, i32_w]
               rfl
              refine pure_ (i := 13) (N := some 91) (v := ?_) (a' := ?_) ⟨mk_ 34 16383⟩ rfl rfl (any_of HT_.out (by kernel_rfl)) (fun _ _ _ h => h) (Or.inl ⟨by rfl, ?_⟩) ?_ ?_
              rotate_left
              ·intro w'
               go_simp
               with_reducible rfl
              rotate_left
              ·simp only [Act.put, List.setIfInBounds_toArray, List.set_cons_zero, List.set_cons_succ, i64_w, i32_w]
               rfl
              refine pure_ (i := 14) (N := some 92) (v := ?_) (a' := ?_) ⟨mk_ 34 32767⟩ rfl rfl (any_of HT_.out (by kernel_rfl)) (fun _ _ _ h => h) (Or.inl ⟨by rfl, ?_⟩) ?_ ?_
              rotate_left
              ·intro w'
               go_simp
               with_reducible rfl
              rotate_left
              ·simp only [Act.put, List.setIfInBounds_toArray, List.set_cons_zero, List.set_cons_succ, i64_w, i32_w]
               rfl
              refine pure_ (i := 15) (N := some 93) (v := ?_) (a' := ?_) ⟨mk_ 34 65535⟩ rfl rfl (any_of HT_.out (by kernel_rfl)) (fun _ _ _ h => h) (Or.inl ⟨by rfl, ?_⟩) ?_ ?_
              rotate_left
              ·intro w'
               go_simp
               with_reducible rfl
              rotate_left
              ·simp only [Act.put, List.setIfInBounds_toArray, List.set_cons_zero, List.set_cons_succ, i64_w, i32_w]
               rfl
              refine pure_ (i := 16) (N := some 94) (v := ?_) (a' := ?_) ⟨mk_ 34 131071⟩ rfl rfl (any_of HT_.out (by kernel_rfl)) (fun _ _ _ h => h) (Or.inl ⟨by rfl, ?_⟩) ?_ ?_
              rotate_left
              ·intro w'
               go_simp
               with_reducible rfl
              rotate_left
              ·simp only [Act.put, List.setIfInBounds_toArray, List.set_cons_zero, List.set_cons_succ, i64_w, i32_w]
               rfl
              refine pure_ (i := 18) (N := some 96) (v := ?_) (a' := ?_) ⟨mk_ 34 393215⟩ rfl rfl (any_of HT_.out (by kernel_rfl)) (fun _ _ _ h => h) (Or.inl ⟨by rfl, ?_⟩) ?_ ?_
              rotate_left
              ·intro w'
               go_simp
               with_reducible rfl
              rotate_left
              ·simp only [Act.put, List.setIfInBounds_toArray, List.set_cons_zero, List.set_cons_succ, i64_w, i32_w]
               rfl
              refine pure_ (i := 19) (N := some 97) (v := ?_) (a' := ?_) ⟨mk_ 34 917503⟩ rfl rfl (any_of HT_.out (by kernel_rfl)) (fun _ _ _ h => h) (Or.inl ⟨by rfl, ?_⟩) ?_ ?_
              rotate_left
              ·intro w'
               go_simp
               with_reducible rfl
              rotate_left
              ·simp only [Act.put, List.setIfInBounds_toArray, List.set_cons_zero, List.set_cons_succ, i64_w, i32_w]
               rfl
              refine pure_ (i := 20) (N := some 98) (v := ?_) (a' := ?_) ⟨mk_ 34 1966079⟩ rfl rfl (any_of HT_.out (by kernel_rfl)) (fun _ _ _ h => h) (Or.inl ⟨by rfl, ?_⟩) ?_ ?_
              rotate_left
              ·intro w'
               go_simp
               with_reducible rfl
              rotate_left
              ·simp only [Act.put, List.setIfInBounds_toArray, List.set_cons_zero, List.set_cons_succ, i64_w, i32_w]
               rfl
              refine pure_ (i := 21) (N := some 99) (v := ?_) (a' := ?_) ⟨mk_ 34 4063231⟩ rfl rfl (any_of HT_.out (by kernel_rfl)) (fun _ _ _ h => h) (Or.inl ⟨by rfl, ?_⟩) ?_ ?_
              rotate_left
              ·intro w'
               go_simp
               with_reducible rfl
              rotate_left
              ·simp only [Act.put, List.setIfInBounds_toArray, List.set_cons_zero, List.set_cons_succ, i64_w, i32_w]
               rfl
              refine take_ (i := 17) (N := some 95) (v := ?_) (a' := ?_) ⟨mk_ 34 4194303⟩ rfl rfl (take_ofW HT_.out HW_.out (by kernel_rfl)) (fun _ _ _ h => h) (Or.inl ⟨by rfl, ?_⟩) hHeld ?_ ?_
              rotate_left
              ·rintro w' ⟨s0, s1, s2, s3, s4, s5, s6, s7, s8, s9, s10, s11, s12, s13, s14, s15, s16, s17⟩
               go_simp
               with_reducible rfl
              rotate_left
              ·simp only [Act.put, List.setIfInBounds_toArray, List.set_cons_zero, List.set_cons_succ, i64_w, i32_w]
               rfl
              refine take_ (i := 22) (N := some 100) (v := ?_) (a' := ?_) ⟨mk_ 34 8388607⟩ rfl rfl (take_ofW HT_.out HW_.out (by kernel_rfl)) (fun _ _ _ h => h) (Or.inl ⟨by rfl, ?_⟩) hHeld ?_ ?_
              rotate_left
              ·rintro w' ⟨s0, s1, s2, s3, s4, s5, s6, s7, s8, s9, s10, s11, s12, s13, s14, s15, s16, s17⟩
               go_simp
               with_reducible rfl
              rotate_left
              ·simp only [Act.put, List.setIfInBounds_toArray, List.set_cons_zero, List.set_cons_succ, i64_w, i32_w]
               rfl
              refine pure_ (i := 23) (N := some 101) (v := ?_) (a' := ?_) ⟨mk_ 34 16777215⟩ rfl rfl (any_of HT_.out (by kernel_rfl)) (fun _ _ _ h => h) (Or.inl ⟨by rfl, ?_⟩) ?_ ?_
              rotate_left
              ·intro w'
               go_simp
               with_reducible rfl
              rotate_left
              ·simp only [Act.put, List.setIfInBounds_toArray, List.set_cons_zero, List.set_cons_succ, i64_w, i32_w]
               rfl
              refine pure_ (i := 24) (N := some 102) (v := ?_) (a' := ?_) ⟨mk_ 34 33554431⟩ rfl rfl (any_of HT_.out (by kernel_rfl)) (fun _ _ _ h => h) (Or.inl ⟨by rfl, ?_⟩) ?_ ?_
              rotate_left
              ·intro w'
               go_simp
               with_reducible rfl
              rotate_left
              ·simp only [Act.put, List.setIfInBounds_toArray, List.set_cons_zero, List.set_cons_succ, i64_w, i32_w]
               rfl
              refine pure_ (i := 25) (N := some 103) (v := ?_) (a' := ?_) ⟨mk_ 34 67108863⟩ rfl rfl (any_of HT_.out (by kernel_rfl)) (fun _ _ _ h => h) (Or.inl ⟨by rfl, ?_⟩) ?_ ?_
              rotate_left
              ·intro w'
               go_simp
               with_reducible rfl
              rotate_left
              ·simp only [Act.put, List.setIfInBounds_toArray, List.set_cons_zero, List.set_cons_succ, i64_w, i32_w]
               rfl
              refine pure_ (i := 26) (N := some 104) (v := ?_) (a' := ?_) ⟨mk_ 34 134217727⟩ rfl rfl (any_of HT_.out (by kernel_rfl)) (fun _ _ _ h => h) (Or.inl ⟨by rfl, ?_⟩) ?_ ?_
              rotate_left
              ·intro w'
               go_simp
               with_reducible rfl
              rotate_left
              ·simp only [Act.put, List.setIfInBounds_toArray, List.set_cons_zero, List.set_cons_succ, i64_w, i32_w]
               rfl
              refine pure_ (i := 27) (N := some 105) (v := ?_) (a' := ?_) ⟨mk_ 34 268435455⟩ rfl rfl (any_of HT_.out (by kernel_rfl)) (fun _ _ _ h => h) (Or.inl ⟨by rfl, ?_⟩) ?_ ?_
              rotate_left
              ·intro w'
               go_simp
               with_reducible rfl
              rotate_left
              ·simp only [Act.put, List.setIfInBounds_toArray, List.set_cons_zero, List.set_cons_succ, i64_w, i32_w]
               rfl
              refine pure_ (i := 28) (N := some 106) (v := ?_) (a' := ?_) ⟨mk_ 34 536870911⟩ rfl rfl (any_of HT_.out (by kernel_rfl)) (fun _ _ _ h => h) (Or.inl ⟨by rfl, ?_⟩) ?_ ?_
              rotate_left
              ·intro w'
               go_simp
               with_reducible rfl
              rotate_left
              ·simp only [Act.put, List.setIfInBounds_toArray, List.set_cons_zero, List.set_cons_succ, i64_w, i32_w]
               rfl
              refine pure_ (i := 29) (N := some 107) (v := ?_) (a' := ?_) ⟨mk_ 34 1073741823⟩ rfl rfl (any_of HT_.out (by kernel_rfl)) (fun _ _ _ h => h) (Or.inl ⟨by rfl, ?_⟩) ?_ ?_
              rotate_left
              ·intro w'
               go_simp
               with_reducible rfl
              rotate_left
              ·simp only [Act.put, List.setIfInBounds_toArray, List.set_cons_zero, List.set_cons_succ, i64_w, i32_w]
               rfl
              refine take_ (i := 30) (N := some 108) (v := ?_) (a' := ?_) ⟨mk_ 34 2147483647⟩ rfl rfl (take_ofW HT_.out HW_.out (by kernel_rfl)) (fun _ _ _ h => h) (Or.inl ⟨by rfl, ?_⟩) hHeld ?_ ?_
              rotate_left
              ·rintro w' ⟨s0, s1, s2, s3, s4, s5, s6, s7, s8, s9, s10, s11, s12, s13, s14, s15, s16, s17⟩
               go_simp
               with_reducible rfl
              rotate_left
              ·simp only [Act.put, List.setIfInBounds_toArray, List.set_cons_zero, List.set_cons_succ, i64_w, i32_w]
               rfl
              refine one_ (i := 31) (N := some 109) ⟨mk_ 34 4294967295⟩ rfl rfl (one_of HT_.out (by kernel_rfl)) (by decide) (fun K hK => ?_)
              refine goes_ Try.func42 (by kernel_rfl) rfl #[.agg #[.int .i64 ((rd_T53 l1 x12_2).f1.f0), .int .u64 ((rd_T53 l1 x12_2).f1.f1), .string ((rd_T53 l1 x12_2).f1.f2)]] (by rfl) rfl rfl (by (try simp only [List.map_toArray, List.map_cons, List.map_nil]); first | done | rfl | (simp only [List.length_drop, List.length_take]; rfl)) ?_
              with_reducible refine (kind_Valid.calls k2 ((rd_T53 l1 x12_2).f1.f0) ((rd_T53 l1 x12_2).f1.f1) ((rd_T53 l1 x12_2).f1.f2) t907 _ A31.out).mono ?_
              rintro e w33 ⟨rfl, hb⟩
              refine ⟨_, rfl, ?_⟩
              have n0_ := Aside0.mk (below_step (by repeat (first | (with_reducible first | exact HB.out | apply below_alloc | apply pw_below_drewN | apply below_drew1) | exact HB.out)) hb)
              clear HB
              have HB := n0_
              clear n0_
              (try clear hb)
              (try clear hb2)
              (try clear hk)
              (try clear hi)
              refine hK.out _ _ ⟨((HB.out.cell (World.block_lt_of_cell? w _ hw902_0)).trans hw902_0), ((HB.out.cell (World.block_lt_of_cell? w _ hw902_1)).trans hw902_1), ((HB.out.cell (World.block_lt_of_cell? w _ hw902_2)).trans hw902_2), ((HB.out.cell (World.block_lt_of_cell? w _ hw902_3)).trans hw902_3), ((HB.out.cell (World.block_lt_of_cell? w _ hw903_0)).trans hw903_0), ((HB.out.cell (World.block_lt_of_cell? w _ hw903_1)).trans hw903_1), ((HB.out.cell (World.block_lt_of_cell? w _ hw903_2)).trans hw903_2), ((HB.out.cell (World.block_lt_of_cell? w _ hw904_0)).trans hw904_0), ((HB.out.cell (World.block_lt_of_cell? w _ hw904_1)).trans hw904_1), ((HB.out.cell (World.block_lt_of_cell? w _ hw904_2)).trans hw904_2), ((HB.out.cell (World.block_lt_of_cell? w _ hw904_3)).trans hw904_3), ((HB.out.cell (World.block_lt_of_cell? w _ hw905_0)).trans hw905_0), ((HB.out.cell (World.block_lt_of_cell? w _ hw905_1)).trans hw905_1), ((HB.out.cell (World.block_lt_of_cell? w _ hw905_2)).trans hw905_2), ((HB.out.cell (World.block_lt_of_cell? w _ hw906_0)).trans hw906_0), ((HB.out.cell (World.block_lt_of_cell? w _ hw906_1)).trans hw906_1), ((HB.out.cell (World.block_lt_of_cell? w _ hw906_2)).trans hw906_2), ((HB.out.cell (World.block_lt_of_cell? w _ hw906_3)).trans hw906_3)⟩ (fun hHeld => ?_)
              clear hK K
              refine norm_ (a' := ?_) ?_ ?_
              rotate_left
              ·show Act.put _ (some 109) _ = _
               simp only [Act.put, List.setIfInBounds_toArray, List.set_cons_zero, List.set_cons_succ, i64_w, i32_w]
               rfl
              refine pure_ (i := 32) (N := some 110) (v := ?_) (a' := ?_) ⟨mk_ 34 8589934591⟩ rfl rfl (any_of HT_.out (by kernel_rfl)) (fun _ _ _ h => h) (Or.inl ⟨by rfl, ?_⟩) ?_ ?_
              rotate_left
              ·intro w'
               go_simp
               with_reducible rfl
              rotate_left
              ·simp only [Act.put, List.setIfInBounds_toArray, List.set_cons_zero, List.set_cons_succ, i64_w, i32_w]
               rfl
              refine pure_ (i := 33) (N := some 111) (v := ?_) (a' := ?_) ⟨mk_ 34 17179869183⟩ rfl rfl (any_of HT_.out (by kernel_rfl)) (fun _ _ _ h => h) (Or.inl ⟨by rfl, ?_⟩) ?_ ?_
              rotate_left
              ·intro w'
               go_simp
               with_reducible rfl
              rotate_left
              ·simp only [Act.put, List.setIfInBounds_toArray, List.set_cons_zero, List.set_cons_succ, i64_w, i32_w]
               rfl
              refine done_ (done_of HT_.out (by kernel_rfl)) ?_
              try go_wp2
              go_meet
              case rel => exact ⟨_, (!t907), (by first | rfl | (simp; done) | (simp [*]; done)), H', ⟨by have := HJ9.out; have := HK2.out; first | omega | exact Nat.le_refl _⟩, ⟨by repeat (first | (with_reducible first | exact HB.out | apply below_alloc | apply pw_below_drewN | apply below_drew1) | exact HB.out)⟩⟩
             ·rw [if_neg c30] at H
              have c30b0 : (((rd_T53 l1 x12_2).f1.f0) == ((rd_T35 l0 x12_2).f2)) = false := beq_eq_false_iff_ne.mpr c30
              have c30b1 : (((rd_T53 l1 x12_2).f1.f0) != ((rd_T35 l0 x12_2).f2)) = true := bne_iff_ne.mpr c30
              have H' := Aside0.mk H
              clear H
              try go_wp2
              have n0_ := Aside0.mk (below_drew1 HB.out)
              clear HB
              have HB := n0_
              clear n0_
              have p902 : 0 ≤ (x12_2 : Int) := of_decide_eq_true (by first | (with_reducible assumption) | assumption)
              have q902 : x12_2 < (l1.length : Int) := of_decide_eq_true (by first | (with_reducible assumption) | assumption)
              obtain ⟨ad902, e902, hx902_0, hx902_1, hx902_2, hx902_3⟩ := at_T53 HR1.out x12_2 p902 q902
              have hw902_3 := hx902_3
              have hw902_2 := hx902_2
              have hw902_1 := hx902_1
              have hw902_0 := hx902_0
              cases e902
              replace hx902_0 := (HB.out.cell (World.block_lt_of_cell? w _ hx902_0)).trans hx902_0
              replace hx902_1 := (HB.out.cell (World.block_lt_of_cell? w _ hx902_1)).trans hx902_1
              replace hx902_2 := (HB.out.cell (World.block_lt_of_cell? w _ hx902_2)).trans hx902_2
              replace hx902_3 := (HB.out.cell (World.block_lt_of_cell? w _ hx902_3)).trans hx902_3
              replace p902 := eq_true p902
              replace q902 := eq_true q902
              have p903 : 0 ≤ (x12_2 : Int) := of_decide_eq_true (by first | (with_reducible assumption) | assumption)
              have q903 : x12_2 < (l0.length : Int) := of_decide_eq_true (by first | (with_reducible assumption) | assumption)
              obtain ⟨ad903, e903, hx903_0, hx903_1, hx903_2⟩ := at_T35 HR0.out x12_2 p903 q903
              have hw903_2 := hx903_2
              have hw903_1 := hx903_1
              have hw903_0 := hx903_0
              cases e903
              replace hx903_0 := (HB.out.cell (World.block_lt_of_cell? w _ hx903_0)).trans hx903_0
              replace hx903_1 := (HB.out.cell (World.block_lt_of_cell? w _ hx903_1)).trans hx903_1
              replace hx903_2 := (HB.out.cell (World.block_lt_of_cell? w _ hx903_2)).trans hx903_2
              replace p903 := eq_true p903
              replace q903 := eq_true q903
              have p904 : 0 ≤ (x12_2 : Int) := of_decide_eq_true (by first | (with_reducible assumption) | assumption)
              have q904 : x12_2 < (l1.length : Int) := of_decide_eq_true (by first | (with_reducible assumption) | assumption)
              obtain ⟨ad904, e904, hx904_0, hx904_1, hx904_2, hx904_3⟩ := at_T53 HR1.out x12_2 p904 q904
              have hw904_3 := hx904_3
              have hw904_2 := hx904_2
              have hw904_1 := hx904_1
              have hw904_0 := hx904_0
              obtain rfl : ad902 = ad904 := (by injection e904)
              replace hx904_0 := (HB.out.cell (World.block_lt_of_cell? w _ hx904_0)).trans hx904_0
              replace hx904_1 := (HB.out.cell (World.block_lt_of_cell? w _ hx904_1)).trans hx904_1
              replace hx904_2 := (HB.out.cell (World.block_lt_of_cell? w _ hx904_2)).trans hx904_2
              replace hx904_3 := (HB.out.cell (World.block_lt_of_cell? w _ hx904_3)).trans hx904_3
              replace p904 := eq_true p904
              replace q904 := eq_true q904
              have p905 : 0 ≤ (x12_2 : Int) := of_decide_eq_true (by first | (with_reducible assumption) | assumption)
              have q905 : x12_2 < (l0.length : Int) := of_decide_eq_true (by first | (with_reducible assumption) | assumption)
              obtain ⟨ad905, e905, hx905_0, hx905_1, hx905_2⟩ := at_T35 HR0.out x12_2 p905 q905
              have hw905_2 := hx905_2
              have hw905_1 := hx905_1
              have hw905_0 := hx905_0
              obtain rfl : ad903 = ad905 := (by injection e905)
              replace hx905_0 := (HB.out.cell (World.block_lt_of_cell? w _ hx905_0)).trans hx905_0
              replace hx905_1 := (HB.out.cell (World.block_lt_of_cell? w _ hx905_1)).trans hx905_1
              replace hx905_2 := (HB.out.cell (World.block_lt_of_cell? w _ hx905_2)).trans hx905_2
              replace p905 := eq_true p905
              replace q905 := eq_true q905
              refine start_ (n := 34) (S := fun w' => w'.cell? (ad902.add ((x12_2).toNat * 4)) = some (.int .i64 ((rd_T53 l1 x12_2).f0)) ∧ w'.cell? ⟨(ad902.add ((x12_2).toNat * 4)).block, (ad902.add ((x12_2).toNat * 4)).off + 1, none⟩ = some (.int .i64 ((rd_T53 l1 x12_2).f1.f0)) ∧ w'.cell? ⟨(ad902.add ((x12_2).toNat * 4)).block, (ad902.add ((x12_2).toNat * 4)).off + 2, none⟩ = some (.int .u64 ((rd_T53 l1 x12_2).f1.f1)) ∧ w'.cell? ⟨(ad902.add ((x12_2).toNat * 4)).block, (ad902.add ((x12_2).toNat * 4)).off + 3, none⟩ = some (.string ((rd_T53 l1 x12_2).f1.f2)) ∧ w'.cell? (ad903.add ((x12_2).toNat * 3)) = some (.string ((rd_T35 l0 x12_2).f0)) ∧ w'.cell? ⟨(ad903.add ((x12_2).toNat * 3)).block, (ad903.add ((x12_2).toNat * 3)).off + 1, none⟩ = some (.int .i64 ((rd_T35 l0 x12_2).f1)) ∧ w'.cell? ⟨(ad903.add ((x12_2).toNat * 3)).block, (ad903.add ((x12_2).toNat * 3)).off + 2, none⟩ = some (.int .i64 ((rd_T35 l0 x12_2).f2)) ∧ w'.cell? (ad902.add ((x12_2).toNat * 4)) = some (.int .i64 ((rd_T53 l1 x12_2).f0)) ∧ w'.cell? ⟨(ad902.add ((x12_2).toNat * 4)).block, (ad902.add ((x12_2).toNat * 4)).off + 1, none⟩ = some (.int .i64 ((rd_T53 l1 x12_2).f1.f0)) ∧ w'.cell? ⟨(ad902.add ((x12_2).toNat * 4)).block, (ad902.add ((x12_2).toNat * 4)).off + 2, none⟩ = some (.int .u64 ((rd_T53 l1 x12_2).f1.f1)) ∧ w'.cell? ⟨(ad902.add ((x12_2).toNat * 4)).block, (ad902.add ((x12_2).toNat * 4)).off + 3, none⟩ = some (.string ((rd_T53 l1 x12_2).f1.f2)) ∧ w'.cell? (ad903.add ((x12_2).toNat * 3)) = some (.string ((rd_T35 l0 x12_2).f0)) ∧ w'.cell? ⟨(ad903.add ((x12_2).toNat * 3)).block, (ad903.add ((x12_2).toNat * 3)).off + 1, none⟩ = some (.int .i64 ((rd_T35 l0 x12_2).f1)) ∧ w'.cell? ⟨(ad903.add ((x12_2).toNat * 3)).block, (ad903.add ((x12_2).toNat * 3)).off + 2, none⟩ = some (.int .i64 ((rd_T35 l0 x12_2).f2))) (ds := []) ⟨mk_ 34 0⟩ (by kernel_rfl) rfl rfl ⟨((HB.out.cell (World.block_lt_of_cell? w _ hw902_0)).trans hw902_0), ((HB.out.cell (World.block_lt_of_cell? w _ hw902_1)).trans hw902_1), ((HB.out.cell (World.block_lt_of_cell? w _ hw902_2)).trans hw902_2), ((HB.out.cell (World.block_lt_of_cell? w _ hw902_3)).trans hw902_3), ((HB.out.cell (World.block_lt_of_cell? w _ hw903_0)).trans hw903_0), ((HB.out.cell (World.block_lt_of_cell? w _ hw903_1)).trans hw903_1), ((HB.out.cell (World.block_lt_of_cell? w _ hw903_2)).trans hw903_2), ((HB.out.cell (World.block_lt_of_cell? w _ hw904_0)).trans hw904_0), ((HB.out.cell (World.block_lt_of_cell? w _ hw904_1)).trans hw904_1), ((HB.out.cell (World.block_lt_of_cell? w _ hw904_2)).trans hw904_2), ((HB.out.cell (World.block_lt_of_cell? w _ hw904_3)).trans hw904_3), ((HB.out.cell (World.block_lt_of_cell? w _ hw905_0)).trans hw905_0), ((HB.out.cell (World.block_lt_of_cell? w _ hw905_1)).trans hw905_1), ((HB.out.cell (World.block_lt_of_cell? w _ hw905_2)).trans hw905_2)⟩ (fun hHeld => ?_); refine with_tabW stratumlaw13_TableFits.tab13 stratumlaw13_TableFits.bits13 (fun HT_ HW_ => ?_)
              generalize wr.drew = w34 at HB hx902_0 hx902_1 hx902_2 hx902_3 hx903_0 hx903_1 hx903_2 hx904_0 hx904_1 hx904_2 hx904_3 hx905_0 hx905_1 hx905_2 hHeld ⊢
              refine pure_ (i := 0) (N := some 78) (v := ?_) (a' := ?_) ⟨mk_ 34 1⟩ rfl rfl (any_of HT_.out (by kernel_rfl)) (fun _ _ _ h => h) (Or.inl ⟨by rfl, ?_⟩) ?_ ?_
              rotate_left
              ·intro w'
               go_simp
               with_reducible rfl
              rotate_left
              ·simp only [Act.put, List.setIfInBounds_toArray, List.set_cons_zero, List.set_cons_succ, i64_w, i32_w]
               rfl
              refine pure_ (i := 1) (N := some 79) (v := ?_) (a' := ?_) ⟨mk_ 34 3⟩ rfl rfl (any_of HT_.out (by kernel_rfl)) (fun _ _ _ h => h) (Or.inl ⟨by rfl, ?_⟩) ?_ ?_
              rotate_left
              ·intro w'
               go_simp
               with_reducible rfl
              rotate_left
              ·simp only [Act.put, List.setIfInBounds_toArray, List.set_cons_zero, List.set_cons_succ, i64_w, i32_w]
               rfl
              refine pure_ (i := 2) (N := some 80) (v := ?_) (a' := ?_) ⟨mk_ 34 7⟩ rfl rfl (any_of HT_.out (by kernel_rfl)) (fun _ _ _ h => h) (Or.inl ⟨by rfl, ?_⟩) ?_ ?_
              rotate_left
              ·intro w'
               go_simp
               with_reducible rfl
              rotate_left
              ·simp only [Act.put, List.setIfInBounds_toArray, List.set_cons_zero, List.set_cons_succ, i64_w, i32_w]
               rfl
              refine pure_ (i := 3) (N := some 81) (v := ?_) (a' := ?_) ⟨mk_ 34 15⟩ rfl rfl (any_of HT_.out (by kernel_rfl)) (fun _ _ _ h => h) (Or.inl ⟨by rfl, ?_⟩) ?_ ?_
              rotate_left
              ·intro w'
               go_simp
               with_reducible rfl
              rotate_left
              ·simp only [Act.put, List.setIfInBounds_toArray, List.set_cons_zero, List.set_cons_succ, i64_w, i32_w]
               rfl
              refine pure_ (i := 5) (N := some 83) (v := ?_) (a' := ?_) ⟨mk_ 34 47⟩ rfl rfl (any_of HT_.out (by kernel_rfl)) (fun _ _ _ h => h) (Or.inl ⟨by rfl, ?_⟩) ?_ ?_
              rotate_left
              ·intro w'
               go_simp
               with_reducible rfl
              rotate_left
              ·simp only [Act.put, List.setIfInBounds_toArray, List.set_cons_zero, List.set_cons_succ, i64_w, i32_w]
               rfl
              refine pure_ (i := 6) (N := some 84) (v := ?_) (a' := ?_) ⟨mk_ 34 111⟩ rfl rfl (any_of HT_.out (by kernel_rfl)) (fun _ _ _ h => h) (Or.inl ⟨by rfl, ?_⟩) ?_ ?_
              rotate_left
              ·intro w'
               go_simp
               with_reducible rfl
              rotate_left
              ·simp only [Act.put, List.setIfInBounds_toArray, List.set_cons_zero, List.set_cons_succ, i64_w, i32_w]
               rfl
              refine pure_ (i := 7) (N := some 85) (v := ?_) (a' := ?_) ⟨mk_ 34 239⟩ rfl rfl (any_of HT_.out (by kernel_rfl)) (fun _ _ _ h => h) (Or.inl ⟨by rfl, ?_⟩) ?_ ?_
              rotate_left
              ·intro w'
               go_simp
               with_reducible rfl
              rotate_left
              ·simp only [Act.put, List.setIfInBounds_toArray, List.set_cons_zero, List.set_cons_succ, i64_w, i32_w]
               rfl
              refine pure_ (i := 8) (N := some 86) (v := ?_) (a' := ?_) ⟨mk_ 34 495⟩ rfl rfl (any_of HT_.out (by kernel_rfl)) (fun _ _ _ h => h) (Or.inl ⟨by rfl, ?_⟩) ?_ ?_
              rotate_left
              ·intro w'
               go_simp
               with_reducible rfl
              rotate_left
              ·simp only [Act.put, List.setIfInBounds_toArray, List.set_cons_zero, List.set_cons_succ, i64_w, i32_w]
               rfl
              refine take_ (i := 4) (N := some 82) (v := ?_) (a' := ?_) ⟨mk_ 34 511⟩ rfl rfl (take_ofW HT_.out HW_.out (by kernel_rfl)) (fun _ _ _ h => h) (Or.inl ⟨by rfl, ?_⟩) hHeld ?_ ?_
              rotate_left
              ·rintro w' ⟨s0, s1, s2, s3, s4, s5, s6, s7, s8, s9, s10, s11, s12, s13⟩
               go_simp
               with_reducible rfl
              rotate_left
              ·simp only [Act.put, List.setIfInBounds_toArray, List.set_cons_zero, List.set_cons_succ, i64_w, i32_w]
               rfl
              refine take_ (i := 9) (N := some 87) (v := ?_) (a' := ?_) ⟨mk_ 34 1023⟩ rfl rfl (take_ofW HT_.out HW_.out (by kernel_rfl)) (fun _ _ _ h => h) (Or.inl ⟨by rfl, ?_⟩) hHeld ?_ ?_
              rotate_left
              ·rintro w' ⟨s0, s1, s2, s3, s4, s5, s6, s7, s8, s9, s10, s11, s12, s13⟩
               go_simp
               with_reducible rfl
              rotate_left
              ·simp only [Act.put, List.setIfInBounds_toArray, List.set_cons_zero, List.set_cons_succ, i64_w, i32_w]
               rfl
              refine pure_ (i := 10) (N := some 88) (v := ?_) (a' := ?_) ⟨mk_ 34 2047⟩ rfl rfl (any_of HT_.out (by kernel_rfl)) (fun _ _ _ h => h) (Or.inl ⟨by rfl, ?_⟩) ?_ ?_
              rotate_left
              ·intro w'
               go_simp
               with_reducible rfl
              rotate_left
              ·simp only [Act.put, List.setIfInBounds_toArray, List.set_cons_zero, List.set_cons_succ, i64_w, i32_w]
               rfl
              refine pure_ (i := 11) (N := some 89) (v := ?_) (a' := ?_) ⟨mk_ 34 4095⟩ rfl rfl (any_of HT_.out (by kernel_rfl)) (fun _ _ _ h => h) (Or.inl ⟨by rfl, ?_⟩) ?_ ?_
              rotate_left
              ·intro w'
               go_simp
               with_reducible rfl
              rotate_left
              ·simp only [Act.put, List.setIfInBounds_toArray, List.set_cons_zero, List.set_cons_succ, i64_w, i32_w]
               rfl
              refine pure_ (i := 12) (N := some 90) (v := ?_) (a' := ?_) ⟨mk_ 34 8191⟩ rfl rfl (any_of HT_.out (by kernel_rfl)) (fun _ _ _ h => h) (Or.inl ⟨by rfl, ?_⟩) ?_ ?_
              rotate_left
              ·intro w'
               go_simp
               with_reducible rfl
              rotate_left
              ·simp only [Act.put, List.setIfInBounds_toArray, List.set_cons_zero, List.set_cons_succ, i64_w, i32_w]
               rfl
              refine pure_ (i := 13) (N := some 91) (v := ?_) (a' := ?_) ⟨mk_ 34 16383⟩ rfl rfl (any_of HT_.out (by kernel_rfl)) (fun _ _ _ h => h) (Or.inl ⟨by rfl, ?_⟩) ?_ ?_
              rotate_left
              ·intro w'
               go_simp
               with_reducible rfl
              rotate_left
              ·simp only [Act.put, List.setIfInBounds_toArray, List.set_cons_zero, List.set_cons_succ, i64_w, i32_w]
               rfl
              refine pure_ (i := 14) (N := some 92) (v := ?_) (a' := ?_) ⟨mk_ 34 32767⟩ rfl rfl (any_of HT_.out (by kernel_rfl)) (fun _ _ _ h => h) (Or.inl ⟨by rfl, ?_⟩) ?_ ?_
              rotate_left
              ·intro w'
               go_simp
               with_reducible rfl
              rotate_left
              ·simp only [Act.put, List.setIfInBounds_toArray, List.set_cons_zero, List.set_cons_succ, i64_w, i32_w]
               rfl
              refine pure_ (i := 15) (N := some 93) (v := ?_) (a' := ?_) ⟨mk_ 34 65535⟩ rfl rfl (any_of HT_.out (by kernel_rfl)) (fun _ _ _ h => h) (Or.inl ⟨by rfl, ?_⟩) ?_ ?_
              rotate_left
              ·intro w'
               go_simp
               with_reducible rfl
              rotate_left
              ·simp only [Act.put, List.setIfInBounds_toArray, List.set_cons_zero, List.set_cons_succ, i64_w, i32_w]
               rfl
              refine pure_ (i := 16) (N := some 94) (v := ?_) (a' := ?_) ⟨mk_ 34 131071⟩ rfl rfl (any_of HT_.out (by kernel_rfl)) (fun _ _ _ h => h) (Or.inl ⟨by rfl, ?_⟩) ?_ ?_
              rotate_left
              ·intro w'
               go_simp
               with_reducible rfl
              rotate_left
              ·simp only [Act.put, List.setIfInBounds_toArray, List.set_cons_zero, List.set_cons_succ, i64_w, i32_w]
               rfl
              refine pure_ (i := 18) (N := some 96) (v := ?_) (a' := ?_) ⟨mk_ 34 393215⟩ rfl rfl (any_of HT_.out (by kernel_rfl)) (fun _ _ _ h => h) (Or.inl ⟨by rfl, ?_⟩) ?_ ?_
              rotate_left
              ·intro w'
               go_simp
               with_reducible rfl
              rotate_left
              ·simp only [Act.put, List.setIfInBounds_toArray, List.set_cons_zero, List.set_cons_succ, i64_w, i32_w]
               rfl
              refine pure_ (i := 19) (N := some 97) (v := ?_) (a' := ?_) ⟨mk_ 34 917503⟩ rfl rfl (any_of HT_.out (by kernel_rfl)) (fun _ _ _ h => h) (Or.inl ⟨by rfl, ?_⟩) ?_ ?_
              rotate_left
              ·intro w'
               go_simp
               with_reducible rfl
              rotate_left
              ·simp only [Act.put, List.setIfInBounds_toArray, List.set_cons_zero, List.set_cons_succ, i64_w, i32_w]
               rfl
              refine pure_ (i := 20) (N := some 98) (v := ?_) (a' := ?_) ⟨mk_ 34 1966079⟩ rfl rfl (any_of HT_.out (by kernel_rfl)) (fun _ _ _ h => h) (Or.inl ⟨by rfl, ?_⟩) ?_ ?_
              rotate_left
              ·intro w'
               go_simp
               with_reducible rfl
              rotate_left
              ·simp only [Act.put, List.setIfInBounds_toArray, List.set_cons_zero, List.set_cons_succ, i64_w, i32_w]
               rfl
              refine pure_ (i := 21) (N := some 99) (v := ?_) (a' := ?_) ⟨mk_ 34 4063231⟩ rfl rfl (any_of HT_.out (by kernel_rfl)) (fun _ _ _ h => h) (Or.inl ⟨by rfl, ?_⟩) ?_ ?_
              rotate_left
              ·intro w'
               go_simp
               with_reducible rfl
              rotate_left
              ·simp only [Act.put, List.setIfInBounds_toArray, List.set_cons_zero, List.set_cons_succ, i64_w, i32_w]
               rfl
              refine take_ (i := 17) (N := some 95) (v := ?_) (a' := ?_) ⟨mk_ 34 4194303⟩ rfl rfl (take_ofW HT_.out HW_.out (by kernel_rfl)) (fun _ _ _ h => h) (Or.inl ⟨by rfl, ?_⟩) hHeld ?_ ?_
              rotate_left
              ·rintro w' ⟨s0, s1, s2, s3, s4, s5, s6, s7, s8, s9, s10, s11, s12, s13⟩
               go_simp
               with_reducible rfl
              rotate_left
              ·simp only [Act.put, List.setIfInBounds_toArray, List.set_cons_zero, List.set_cons_succ, i64_w, i32_w]
               rfl
              refine take_ (i := 22) (N := some 100) (v := ?_) (a' := ?_) ⟨mk_ 34 8388607⟩ rfl rfl (take_ofW HT_.out HW_.out (by kernel_rfl)) (fun _ _ _ h => h) (Or.inl ⟨by rfl, ?_⟩) hHeld ?_ ?_
              rotate_left
              ·rintro w' ⟨s0, s1, s2, s3, s4, s5, s6, s7, s8, s9, s10, s11, s12, s13⟩
               go_simp
               with_reducible rfl
              rotate_left
              ·simp only [Act.put, List.setIfInBounds_toArray, List.set_cons_zero, List.set_cons_succ, i64_w, i32_w]
               rfl
              refine pure_ (i := 23) (N := some 101) (v := ?_) (a' := ?_) ⟨mk_ 34 16777215⟩ rfl rfl (any_of HT_.out (by kernel_rfl)) (fun _ _ _ h => h) (Or.inl ⟨by rfl, ?_⟩) ?_ ?_
              rotate_left
              ·intro w'
               go_simp
               with_reducible rfl
              rotate_left
              ·simp only [Act.put, List.setIfInBounds_toArray, List.set_cons_zero, List.set_cons_succ, i64_w, i32_w]
               rfl
              refine pure_ (i := 24) (N := some 102) (v := ?_) (a' := ?_) ⟨mk_ 34 33554431⟩ rfl rfl (any_of HT_.out (by kernel_rfl)) (fun _ _ _ h => h) (Or.inl ⟨by rfl, ?_⟩) ?_ ?_
              rotate_left
              ·intro w'
               go_simp
               with_reducible rfl
              rotate_left
              ·simp only [Act.put, List.setIfInBounds_toArray, List.set_cons_zero, List.set_cons_succ, i64_w, i32_w]
               rfl
              refine pure_ (i := 25) (N := some 103) (v := ?_) (a' := ?_) ⟨mk_ 34 67108863⟩ rfl rfl (any_of HT_.out (by kernel_rfl)) (fun _ _ _ h => h) (Or.inl ⟨by rfl, ?_⟩) ?_ ?_
              rotate_left
              ·intro w'
               go_simp
               with_reducible rfl
              rotate_left
              ·simp only [Act.put, List.setIfInBounds_toArray, List.set_cons_zero, List.set_cons_succ, i64_w, i32_w]
               rfl
              refine pure_ (i := 26) (N := some 104) (v := undef) (a' := ?_) ⟨mk_ 34 134217727⟩ rfl rfl (any_of HT_.out (by kernel_rfl)) (fun _ _ _ h => h) (Or.inr ⟨by rfl, rfl⟩) ?_ ?_
              rotate_left
              ·simp only [Act.put, List.setIfInBounds_toArray, List.set_cons_zero, List.set_cons_succ, i64_w, i32_w]
               rfl
              refine pure_ (i := 27) (N := some 105) (v := undef) (a' := ?_) ⟨mk_ 34 268435455⟩ rfl rfl (any_of HT_.out (by kernel_rfl)) (fun _ _ _ h => h) (Or.inr ⟨by rfl, rfl⟩) ?_ ?_
              rotate_left
              ·simp only [Act.put, List.setIfInBounds_toArray, List.set_cons_zero, List.set_cons_succ, i64_w, i32_w]
               rfl
              refine pure_ (i := 28) (N := some 106) (v := undef) (a' := ?_) ⟨mk_ 34 536870911⟩ rfl rfl (any_of HT_.out (by kernel_rfl)) (fun _ _ _ h => h) (Or.inr ⟨by rfl, rfl⟩) ?_ ?_
              rotate_left
              ·simp only [Act.put, List.setIfInBounds_toArray, List.set_cons_zero, List.set_cons_succ, i64_w, i32_w]
               rfl
              refine pure_ (i := 29) (N := some 107) (v := undef) (a' := ?_) ⟨mk_ 34 1073741823⟩ rfl rfl (any_of HT_.out (by kernel_rfl)) (fun _ _ _ h => h) (Or.inr ⟨by rfl, rfl⟩) ?_ ?_
              rotate_left
              ·simp only [Act.put, List.setIfInBounds_toArray, List.set_cons_zero, List.set_cons_succ, i64_w, i32_w]
               rfl
              refine pure_ (i := 30) (N := some 108) (v := undef) (a' := ?_) ⟨mk_ 34 2147483647⟩ rfl rfl (any_of HT_.out (by kernel_rfl)) (fun _ _ _ h => h) (Or.inr ⟨by rfl, rfl⟩) ?_ ?_
              rotate_left
              ·simp only [Act.put, List.setIfInBounds_toArray, List.set_cons_zero, List.set_cons_succ, i64_w, i32_w]
               rfl
              refine pure_ (i := 31) (N := some 109) (v := undef) (a' := ?_) ⟨mk_ 34 4294967295⟩ rfl rfl (any_of HT_.out (by kernel_rfl)) (fun _ _ _ h => h) (Or.inr ⟨by rfl, rfl⟩) ?_ ?_
              rotate_left
              ·simp only [Act.put, List.setIfInBounds_toArray, List.set_cons_zero, List.set_cons_succ, i64_w, i32_w]
               rfl
              refine pure_ (i := 32) (N := some 110) (v := undef) (a' := ?_) ⟨mk_ 34 8589934591⟩ rfl rfl (any_of HT_.out (by kernel_rfl)) (fun _ _ _ h => h) (Or.inr ⟨by rfl, rfl⟩) ?_ ?_
              rotate_left
              ·simp only [Act.put, List.setIfInBounds_toArray, List.set_cons_zero, List.set_cons_succ, i64_w, i32_w]
               rfl
              refine pure_ (i := 33) (N := some 111) (v := ?_) (a' := ?_) ⟨mk_ 34 17179869183⟩ rfl rfl (any_of HT_.out (by kernel_rfl)) (fun _ _ _ h => h) (Or.inl ⟨by rfl, ?_⟩) ?_ ?_
              rotate_left
              ·intro w'
               go_simp
               with_reducible rfl
              rotate_left
              ·simp only [Act.put, List.setIfInBounds_toArray, List.set_cons_zero, List.set_cons_succ, i64_w, i32_w]
               rfl
              refine done_ (done_of HT_.out (by kernel_rfl)) ?_
              try go_wp2
              go_meet
              case rel => exact ⟨_, (true), (by first | rfl | (simp; done) | (simp [*]; done)), H', ⟨by have := HJ9.out; have := HK2.out; first | omega | exact Nat.le_refl _⟩, ⟨by repeat (first | (with_reducible first | exact HB.out | apply below_alloc | apply pw_below_drewN | apply below_drew1) | exact HB.out)⟩⟩
            ·rw [if_neg c29] at H
             have c29b0 : (((rd_T53 l1 x12_2).f0) == ((rd_T35 l0 x12_2).f1)) = false := beq_eq_false_iff_ne.mpr c29
             have c29b1 : (((rd_T53 l1 x12_2).f0) != ((rd_T35 l0 x12_2).f1)) = true := bne_iff_ne.mpr c29
             have H' := Aside0.mk H
             clear H
             try go_wp2
             have n0_ := Aside0.mk (below_drew1 HB.out)
             clear HB
             have HB := n0_
             clear n0_
             have p902 : 0 ≤ (x12_2 : Int) := of_decide_eq_true (by first | (with_reducible assumption) | assumption)
             have q902 : x12_2 < (l1.length : Int) := of_decide_eq_true (by first | (with_reducible assumption) | assumption)
             obtain ⟨ad902, e902, hx902_0, hx902_1, hx902_2, hx902_3⟩ := at_T53 HR1.out x12_2 p902 q902
             have hw902_3 := hx902_3
             have hw902_2 := hx902_2
             have hw902_1 := hx902_1
             have hw902_0 := hx902_0
             cases e902
             replace hx902_0 := (HB.out.cell (World.block_lt_of_cell? w _ hx902_0)).trans hx902_0
             replace hx902_1 := (HB.out.cell (World.block_lt_of_cell? w _ hx902_1)).trans hx902_1
             replace hx902_2 := (HB.out.cell (World.block_lt_of_cell? w _ hx902_2)).trans hx902_2
             replace hx902_3 := (HB.out.cell (World.block_lt_of_cell? w _ hx902_3)).trans hx902_3
             replace p902 := eq_true p902
             replace q902 := eq_true q902
             have p903 : 0 ≤ (x12_2 : Int) := of_decide_eq_true (by first | (with_reducible assumption) | assumption)
             have q903 : x12_2 < (l0.length : Int) := of_decide_eq_true (by first | (with_reducible assumption) | assumption)
             obtain ⟨ad903, e903, hx903_0, hx903_1, hx903_2⟩ := at_T35 HR0.out x12_2 p903 q903
             have hw903_2 := hx903_2
             have hw903_1 := hx903_1
             have hw903_0 := hx903_0
             cases e903
             replace hx903_0 := (HB.out.cell (World.block_lt_of_cell? w _ hx903_0)).trans hx903_0
             replace hx903_1 := (HB.out.cell (World.block_lt_of_cell? w _ hx903_1)).trans hx903_1
             replace hx903_2 := (HB.out.cell (World.block_lt_of_cell? w _ hx903_2)).trans hx903_2
             replace p903 := eq_true p903
             replace q903 := eq_true q903
             refine start_ (n := 34) (S := fun w' => w'.cell? (ad902.add ((x12_2).toNat * 4)) = some (.int .i64 ((rd_T53 l1 x12_2).f0)) ∧ w'.cell? ⟨(ad902.add ((x12_2).toNat * 4)).block, (ad902.add ((x12_2).toNat * 4)).off + 1, none⟩ = some (.int .i64 ((rd_T53 l1 x12_2).f1.f0)) ∧ w'.cell? ⟨(ad902.add ((x12_2).toNat * 4)).block, (ad902.add ((x12_2).toNat * 4)).off + 2, none⟩ = some (.int .u64 ((rd_T53 l1 x12_2).f1.f1)) ∧ w'.cell? ⟨(ad902.add ((x12_2).toNat * 4)).block, (ad902.add ((x12_2).toNat * 4)).off + 3, none⟩ = some (.string ((rd_T53 l1 x12_2).f1.f2)) ∧ w'.cell? (ad903.add ((x12_2).toNat * 3)) = some (.string ((rd_T35 l0 x12_2).f0)) ∧ w'.cell? ⟨(ad903.add ((x12_2).toNat * 3)).block, (ad903.add ((x12_2).toNat * 3)).off + 1, none⟩ = some (.int .i64 ((rd_T35 l0 x12_2).f1)) ∧ w'.cell? ⟨(ad903.add ((x12_2).toNat * 3)).block, (ad903.add ((x12_2).toNat * 3)).off + 2, none⟩ = some (.int .i64 ((rd_T35 l0 x12_2).f2))) (ds := []) ⟨mk_ 34 0⟩ (by kernel_rfl) rfl rfl ⟨((HB.out.cell (World.block_lt_of_cell? w _ hw902_0)).trans hw902_0), ((HB.out.cell (World.block_lt_of_cell? w _ hw902_1)).trans hw902_1), ((HB.out.cell (World.block_lt_of_cell? w _ hw902_2)).trans hw902_2), ((HB.out.cell (World.block_lt_of_cell? w _ hw902_3)).trans hw902_3), ((HB.out.cell (World.block_lt_of_cell? w _ hw903_0)).trans hw903_0), ((HB.out.cell (World.block_lt_of_cell? w _ hw903_1)).trans hw903_1), ((HB.out.cell (World.block_lt_of_cell? w _ hw903_2)).trans hw903_2)⟩ (fun hHeld => ?_); refine with_tabW stratumlaw13_TableFits.tab13 stratumlaw13_TableFits.bits13 (fun HT_ HW_ => ?_)
             generalize wr.drew = w35 at HB hx902_0 hx902_1 hx902_2 hx902_3 hx903_0 hx903_1 hx903_2 hHeld ⊢
             refine pure_ (i := 0) (N := some 78) (v := ?_) (a' := ?_) ⟨mk_ 34 1⟩ rfl rfl (any_of HT_.out (by kernel_rfl)) (fun _ _ _ h => h) (Or.inl ⟨by rfl, ?_⟩) ?_ ?_
             rotate_left
             ·intro w'
              go_simp
              with_reducible rfl
             rotate_left
             ·simp only [Act.put, List.setIfInBounds_toArray, List.set_cons_zero, List.set_cons_succ, i64_w, i32_w]
              rfl
             refine pure_ (i := 1) (N := some 79) (v := ?_) (a' := ?_) ⟨mk_ 34 3⟩ rfl rfl (any_of HT_.out (by kernel_rfl)) (fun _ _ _ h => h) (Or.inl ⟨by rfl, ?_⟩) ?_ ?_
             rotate_left
             ·intro w'
              go_simp
              with_reducible rfl
             rotate_left
             ·simp only [Act.put, List.setIfInBounds_toArray, List.set_cons_zero, List.set_cons_succ, i64_w, i32_w]
              rfl
             refine pure_ (i := 2) (N := some 80) (v := ?_) (a' := ?_) ⟨mk_ 34 7⟩ rfl rfl (any_of HT_.out (by kernel_rfl)) (fun _ _ _ h => h) (Or.inl ⟨by rfl, ?_⟩) ?_ ?_
             rotate_left
             ·intro w'
              go_simp
              with_reducible rfl
             rotate_left
             ·simp only [Act.put, List.setIfInBounds_toArray, List.set_cons_zero, List.set_cons_succ, i64_w, i32_w]
              rfl
             refine pure_ (i := 3) (N := some 81) (v := ?_) (a' := ?_) ⟨mk_ 34 15⟩ rfl rfl (any_of HT_.out (by kernel_rfl)) (fun _ _ _ h => h) (Or.inl ⟨by rfl, ?_⟩) ?_ ?_
             rotate_left
             ·intro w'
              go_simp
              with_reducible rfl
             rotate_left
             ·simp only [Act.put, List.setIfInBounds_toArray, List.set_cons_zero, List.set_cons_succ, i64_w, i32_w]
              rfl
             refine pure_ (i := 5) (N := some 83) (v := ?_) (a' := ?_) ⟨mk_ 34 47⟩ rfl rfl (any_of HT_.out (by kernel_rfl)) (fun _ _ _ h => h) (Or.inl ⟨by rfl, ?_⟩) ?_ ?_
             rotate_left
             ·intro w'
              go_simp
              with_reducible rfl
             rotate_left
             ·simp only [Act.put, List.setIfInBounds_toArray, List.set_cons_zero, List.set_cons_succ, i64_w, i32_w]
              rfl
             refine pure_ (i := 6) (N := some 84) (v := ?_) (a' := ?_) ⟨mk_ 34 111⟩ rfl rfl (any_of HT_.out (by kernel_rfl)) (fun _ _ _ h => h) (Or.inl ⟨by rfl, ?_⟩) ?_ ?_
             rotate_left
             ·intro w'
              go_simp
              with_reducible rfl
             rotate_left
             ·simp only [Act.put, List.setIfInBounds_toArray, List.set_cons_zero, List.set_cons_succ, i64_w, i32_w]
              rfl
             refine pure_ (i := 7) (N := some 85) (v := ?_) (a' := ?_) ⟨mk_ 34 239⟩ rfl rfl (any_of HT_.out (by kernel_rfl)) (fun _ _ _ h => h) (Or.inl ⟨by rfl, ?_⟩) ?_ ?_
             rotate_left
             ·intro w'
              go_simp
              with_reducible rfl
             rotate_left
             ·simp only [Act.put, List.setIfInBounds_toArray, List.set_cons_zero, List.set_cons_succ, i64_w, i32_w]
              rfl
             refine pure_ (i := 8) (N := some 86) (v := ?_) (a' := ?_) ⟨mk_ 34 495⟩ rfl rfl (any_of HT_.out (by kernel_rfl)) (fun _ _ _ h => h) (Or.inl ⟨by rfl, ?_⟩) ?_ ?_
             rotate_left
             ·intro w'
              go_simp
              with_reducible rfl
             rotate_left
             ·simp only [Act.put, List.setIfInBounds_toArray, List.set_cons_zero, List.set_cons_succ, i64_w, i32_w]
              rfl
             refine take_ (i := 4) (N := some 82) (v := ?_) (a' := ?_) ⟨mk_ 34 511⟩ rfl rfl (take_ofW HT_.out HW_.out (by kernel_rfl)) (fun _ _ _ h => h) (Or.inl ⟨by rfl, ?_⟩) hHeld ?_ ?_
             rotate_left
             ·rintro w' ⟨s0, s1, s2, s3, s4, s5, s6⟩
              go_simp
              with_reducible rfl
             rotate_left
             ·simp only [Act.put, List.setIfInBounds_toArray, List.set_cons_zero, List.set_cons_succ, i64_w, i32_w]
              rfl
             refine take_ (i := 9) (N := some 87) (v := ?_) (a' := ?_) ⟨mk_ 34 1023⟩ rfl rfl (take_ofW HT_.out HW_.out (by kernel_rfl)) (fun _ _ _ h => h) (Or.inl ⟨by rfl, ?_⟩) hHeld ?_ ?_
             rotate_left
             ·rintro w' ⟨s0, s1, s2, s3, s4, s5, s6⟩
              go_simp
              with_reducible rfl
             rotate_left
             ·simp only [Act.put, List.setIfInBounds_toArray, List.set_cons_zero, List.set_cons_succ, i64_w, i32_w]
              rfl
             refine pure_ (i := 10) (N := some 88) (v := ?_) (a' := ?_) ⟨mk_ 34 2047⟩ rfl rfl (any_of HT_.out (by kernel_rfl)) (fun _ _ _ h => h) (Or.inl ⟨by rfl, ?_⟩) ?_ ?_
             rotate_left
             ·intro w'
              go_simp
              with_reducible rfl
             rotate_left
             ·simp only [Act.put, List.setIfInBounds_toArray, List.set_cons_zero, List.set_cons_succ, i64_w, i32_w]
              rfl
             refine pure_ (i := 11) (N := some 89) (v := ?_) (a' := ?_) ⟨mk_ 34 4095⟩ rfl rfl (any_of HT_.out (by kernel_rfl)) (fun _ _ _ h => h) (Or.inl ⟨by rfl, ?_⟩) ?_ ?_
             rotate_left
             ·intro w'
              go_simp
              with_reducible rfl
             rotate_left
             ·simp only [Act.put, List.setIfInBounds_toArray, List.set_cons_zero, List.set_cons_succ, i64_w, i32_w]
              rfl
             refine pure_ (i := 12) (N := some 90) (v := undef) (a' := ?_) ⟨mk_ 34 8191⟩ rfl rfl (any_of HT_.out (by kernel_rfl)) (fun _ _ _ h => h) (Or.inr ⟨by rfl, rfl⟩) ?_ ?_
             rotate_left
             ·simp only [Act.put, List.setIfInBounds_toArray, List.set_cons_zero, List.set_cons_succ, i64_w, i32_w]
              rfl
             refine pure_ (i := 13) (N := some 91) (v := undef) (a' := ?_) ⟨mk_ 34 16383⟩ rfl rfl (any_of HT_.out (by kernel_rfl)) (fun _ _ _ h => h) (Or.inr ⟨by rfl, rfl⟩) ?_ ?_
             rotate_left
             ·simp only [Act.put, List.setIfInBounds_toArray, List.set_cons_zero, List.set_cons_succ, i64_w, i32_w]
              rfl
             refine pure_ (i := 14) (N := some 92) (v := undef) (a' := ?_) ⟨mk_ 34 32767⟩ rfl rfl (any_of HT_.out (by kernel_rfl)) (fun _ _ _ h => h) (Or.inr ⟨by rfl, rfl⟩) ?_ ?_
             rotate_left
             ·simp only [Act.put, List.setIfInBounds_toArray, List.set_cons_zero, List.set_cons_succ, i64_w, i32_w]
              rfl
             refine pure_ (i := 15) (N := some 93) (v := undef) (a' := ?_) ⟨mk_ 34 65535⟩ rfl rfl (any_of HT_.out (by kernel_rfl)) (fun _ _ _ h => h) (Or.inr ⟨by rfl, rfl⟩) ?_ ?_
             rotate_left
             ·simp only [Act.put, List.setIfInBounds_toArray, List.set_cons_zero, List.set_cons_succ, i64_w, i32_w]
              rfl
             refine pure_ (i := 16) (N := some 94) (v := undef) (a' := ?_) ⟨mk_ 34 131071⟩ rfl rfl (any_of HT_.out (by kernel_rfl)) (fun _ _ _ h => h) (Or.inr ⟨by rfl, rfl⟩) ?_ ?_
             rotate_left
             ·simp only [Act.put, List.setIfInBounds_toArray, List.set_cons_zero, List.set_cons_succ, i64_w, i32_w]
              rfl
             refine pure_ (i := 17) (N := some 95) (v := undef) (a' := ?_) ⟨mk_ 34 262143⟩ rfl rfl (any_of HT_.out (by kernel_rfl)) (fun _ _ _ h => h) (Or.inr ⟨by rfl, rfl⟩) ?_ ?_
             rotate_left
             ·simp only [Act.put, List.setIfInBounds_toArray, List.set_cons_zero, List.set_cons_succ, i64_w, i32_w]
              rfl
             refine pure_ (i := 18) (N := some 96) (v := undef) (a' := ?_) ⟨mk_ 34 524287⟩ rfl rfl (any_of HT_.out (by kernel_rfl)) (fun _ _ _ h => h) (Or.inr ⟨by rfl, rfl⟩) ?_ ?_
             rotate_left
             ·simp only [Act.put, List.setIfInBounds_toArray, List.set_cons_zero, List.set_cons_succ, i64_w, i32_w]
              rfl
             refine pure_ (i := 19) (N := some 97) (v := undef) (a' := ?_) ⟨mk_ 34 1048575⟩ rfl rfl (any_of HT_.out (by kernel_rfl)) (fun _ _ _ h => h) (Or.inr ⟨by rfl, rfl⟩) ?_ ?_
             rotate_left
             ·simp only [Act.put, List.setIfInBounds_toArray, List.set_cons_zero, List.set_cons_succ, i64_w, i32_w]
              rfl
             refine pure_ (i := 20) (N := some 98) (v := undef) (a' := ?_) ⟨mk_ 34 2097151⟩ rfl rfl (any_of HT_.out (by kernel_rfl)) (fun _ _ _ h => h) (Or.inr ⟨by rfl, rfl⟩) ?_ ?_
             rotate_left
             ·simp only [Act.put, List.setIfInBounds_toArray, List.set_cons_zero, List.set_cons_succ, i64_w, i32_w]
              rfl
             refine pure_ (i := 21) (N := some 99) (v := undef) (a' := ?_) ⟨mk_ 34 4194303⟩ rfl rfl (any_of HT_.out (by kernel_rfl)) (fun _ _ _ h => h) (Or.inr ⟨by rfl, rfl⟩) ?_ ?_
             rotate_left
             ·simp only [Act.put, List.setIfInBounds_toArray, List.set_cons_zero, List.set_cons_succ, i64_w, i32_w]
              rfl
             refine pure_ (i := 22) (N := some 100) (v := undef) (a' := ?_) ⟨mk_ 34 8388607⟩ rfl rfl (any_of HT_.out (by kernel_rfl)) (fun _ _ _ h => h) (Or.inr ⟨by rfl, rfl⟩) ?_ ?_
             rotate_left
             ·simp only [Act.put, List.setIfInBounds_toArray, List.set_cons_zero, List.set_cons_succ, i64_w, i32_w]
              rfl
             refine pure_ (i := 23) (N := some 101) (v := undef) (a' := ?_) ⟨mk_ 34 16777215⟩ rfl rfl (any_of HT_.out (by kernel_rfl)) (fun _ _ _ h => h) (Or.inr ⟨by rfl, rfl⟩) ?_ ?_
             rotate_left
             ·simp only [Act.put, List.setIfInBounds_toArray, List.set_cons_zero, List.set_cons_succ, i64_w, i32_w]
              rfl
             refine pure_ (i := 24) (N := some 102) (v := ?_) (a' := ?_) ⟨mk_ 34 33554431⟩ rfl rfl (any_of HT_.out (by kernel_rfl)) (fun _ _ _ h => h) (Or.inl ⟨by rfl, ?_⟩) ?_ ?_
             rotate_left
             ·intro w'
              go_simp
              with_reducible rfl
             rotate_left
             ·simp only [Act.put, List.setIfInBounds_toArray, List.set_cons_zero, List.set_cons_succ, i64_w, i32_w]
              rfl
             refine pure_ (i := 25) (N := some 103) (v := ?_) (a' := ?_) ⟨mk_ 34 67108863⟩ rfl rfl (any_of HT_.out (by kernel_rfl)) (fun _ _ _ h => h) (Or.inl ⟨by rfl, ?_⟩) ?_ ?_
             rotate_left
             ·intro w'
              go_simp
              with_reducible rfl
             rotate_left
             ·simp only [Act.put, List.setIfInBounds_toArray, List.set_cons_zero, List.set_cons_succ, i64_w, i32_w]
              rfl
             refine pure_ (i := 26) (N := some 104) (v := undef) (a' := ?_) ⟨mk_ 34 134217727⟩ rfl rfl (any_of HT_.out (by kernel_rfl)) (fun _ _ _ h => h) (Or.inr ⟨by rfl, rfl⟩) ?_ ?_
             rotate_left
             ·simp only [Act.put, List.setIfInBounds_toArray, List.set_cons_zero, List.set_cons_succ, i64_w, i32_w]
              rfl
             refine pure_ (i := 27) (N := some 105) (v := undef) (a' := ?_) ⟨mk_ 34 268435455⟩ rfl rfl (any_of HT_.out (by kernel_rfl)) (fun _ _ _ h => h) (Or.inr ⟨by rfl, rfl⟩) ?_ ?_
             rotate_left
             ·simp only [Act.put, List.setIfInBounds_toArray, List.set_cons_zero, List.set_cons_succ, i64_w, i32_w]
              rfl
             refine pure_ (i := 28) (N := some 106) (v := undef) (a' := ?_) ⟨mk_ 34 536870911⟩ rfl rfl (any_of HT_.out (by kernel_rfl)) (fun _ _ _ h => h) (Or.inr ⟨by rfl, rfl⟩) ?_ ?_
             rotate_left
             ·simp only [Act.put, List.setIfInBounds_toArray, List.set_cons_zero, List.set_cons_succ, i64_w, i32_w]
              rfl
             refine pure_ (i := 29) (N := some 107) (v := undef) (a' := ?_) ⟨mk_ 34 1073741823⟩ rfl rfl (any_of HT_.out (by kernel_rfl)) (fun _ _ _ h => h) (Or.inr ⟨by rfl, rfl⟩) ?_ ?_
             rotate_left
             ·simp only [Act.put, List.setIfInBounds_toArray, List.set_cons_zero, List.set_cons_succ, i64_w, i32_w]
              rfl
             refine pure_ (i := 30) (N := some 108) (v := undef) (a' := ?_) ⟨mk_ 34 2147483647⟩ rfl rfl (any_of HT_.out (by kernel_rfl)) (fun _ _ _ h => h) (Or.inr ⟨by rfl, rfl⟩) ?_ ?_
             rotate_left
             ·simp only [Act.put, List.setIfInBounds_toArray, List.set_cons_zero, List.set_cons_succ, i64_w, i32_w]
              rfl
             refine pure_ (i := 31) (N := some 109) (v := undef) (a' := ?_) ⟨mk_ 34 4294967295⟩ rfl rfl (any_of HT_.out (by kernel_rfl)) (fun _ _ _ h => h) (Or.inr ⟨by rfl, rfl⟩) ?_ ?_
             rotate_left
             ·simp only [Act.put, List.setIfInBounds_toArray, List.set_cons_zero, List.set_cons_succ, i64_w, i32_w]
              rfl
             refine pure_ (i := 32) (N := some 110) (v := undef) (a' := ?_) ⟨mk_ 34 8589934591⟩ rfl rfl (any_of HT_.out (by kernel_rfl)) (fun _ _ _ h => h) (Or.inr ⟨by rfl, rfl⟩) ?_ ?_
             rotate_left
             ·simp only [Act.put, List.setIfInBounds_toArray, List.set_cons_zero, List.set_cons_succ, i64_w, i32_w]
              rfl
             refine pure_ (i := 33) (N := some 111) (v := ?_) (a' := ?_) ⟨mk_ 34 17179869183⟩ rfl rfl (any_of HT_.out (by kernel_rfl)) (fun _ _ _ h => h) (Or.inl ⟨by rfl, ?_⟩) ?_ ?_
             rotate_left
             ·intro w'
              go_simp
              with_reducible rfl
             rotate_left
             ·simp only [Act.put, List.setIfInBounds_toArray, List.set_cons_zero, List.set_cons_succ, i64_w, i32_w]
              rfl
             refine done_ (done_of HT_.out (by kernel_rfl)) ?_
             try go_wp2
             go_meet
             case rel => exact ⟨_, (true), (by first | rfl | (simp; done) | (simp [*]; done)), H', ⟨by have := HJ9.out; have := HK2.out; first | omega | exact Nat.le_refl _⟩, ⟨by repeat (first | (with_reducible first | exact HB.out | apply below_alloc | apply pw_below_drewN | apply below_drew1) | exact HB.out)⟩⟩
           ·rw [if_neg c28] at H
            exact absurd H (by simp)
          ·rw [if_neg c27] at H
           exact absurd H (by simp)
         case rest =>
          clear HC26
          try clear c2
          try clear p2
          try clear c3
          try clear c4
          try clear p9
          try clear q9
          try clear hx9
          try clear c27
          try clear c28
          try clear c29
          try clear c29b0
          try clear c29b1
          try clear c30
          try clear c30b0
          try clear c30b1
          try clear hx902_0
          try clear hx902_1
          try clear hx902_2
          try clear hx902_3
          try clear hx903_0
          try clear hx903_1
          try clear hx903_2
          try clear hx904_0
          try clear hx904_1
          try clear hx904_2
          try clear hx904_3
          try clear hx905_0
          try clear hx905_1
          try clear hx905_2
          try clear p902
          try clear p903
          try clear p904
          try clear p905
          try clear q902
          try clear q903
          try clear q904
          try clear q905
          obtain ⟨kq, x111_25, rfl, HA, HJ25, HB⟩ := hcut
          cases kq with
          | zero => exact absurd HA.out (by simp [stratumlaw13_TableFits.j2])
          | succ kj25 =>
           have H := HA.out
           clear HA
           simp only [stratumlaw13_TableFits.j2] at H
           by_cases c36 : x111_25 = true
           ·subst c36
            have H1 : (some false) = some r := by rw [if_pos rfl] at H; exact H
            clear H
            have H := H1
            clear H1
            exact absurd ((Option.some.inj H).trans hr_.out) (by simp)
           ·replace c36 := Bool.eq_false_iff.mpr c36
            subst c36
            have H1 : (stratumlaw13_TableFits.l0 kj25 l0 l1 l2 (wrap64 (x12_2 + 1))) = some r := by rw [if_neg (show ¬ (false = true) by decide)] at H; exact H
            clear H
            have H := H1
            clear H1
            have H' := Aside0.mk H
            clear H
            go_wp2
            go_roundg kj25
            case measure => have := HJ9.out; have := HK2.out; have := HJ25.out; omega
            case rel => exact ⟨(wrap64 (x12_2 + 1)), (by first | rfl | (simp; done) | (simp [*]; done)), H', ⟨by have := HJ9.out; have := HK2.out; have := HJ25.out; omega⟩, ⟨by repeat (first | (with_reducible first | exact HB.out | apply below_alloc | apply pw_below_drewN | apply below_drew1) | exact HB.out)⟩⟩
        ·rw [if_neg c25] at H
         have c25b0 : decide (x12_2 < (l1.length : Int)) = false := decide_eq_false c25
         clear c25
         have H' := Aside0.mk H
         clear H
         go_wp2
         go_loopg [13, 14] k2 (fun kq v13 v14 w' => ∃ (x13_3 : Bool) (x14_3 : Int), v13 = .bool x13_3 ∧ v14 = .int .i64 x14_3 ∧ Aside0 (stratumlaw13_TableFits.l1 kq l0 l1 l2 x13_3 x14_3 = some r) ∧ Aside0 (kq ≤ k2) ∧ Aside0 (Below w.heap.size w w'))
         case atStart => exact ⟨(((l2.length : Int) == (l0.length : Int))), (0), (by first | rfl | (simp; done) | (simp [*]; done)), (by first | rfl | (simp; done) | (simp [*]; done)), H', ⟨Nat.le_refl _⟩, ⟨by repeat (first | (with_reducible first | exact HB.out | apply below_alloc | apply pw_below_drewN | apply below_drew1) | exact HB.out)⟩⟩
         case round =>
          clear H'
          try clear c2
          try clear p2
          try clear c3
          try clear c4
          try clear p6
          try clear p9
          try clear q9
          try clear hx9
          try clear c25
          try clear c25b0
          try clear c27
          try clear c28
          try clear c29
          try clear c29b0
          try clear c29b1
          try clear c30
          try clear c30b0
          try clear c30b1
          try clear c36
          try clear hx902_0
          try clear hx902_1
          try clear hx902_2
          try clear hx902_3
          try clear hx903_0
          try clear hx903_1
          try clear hx903_2
          try clear hx904_0
          try clear hx904_1
          try clear hx904_2
          try clear hx904_3
          try clear hx905_0
          try clear hx905_1
          try clear hx905_2
          try clear p2
          try clear p9
          try clear p902
          try clear p903
          try clear p904
          try clear p905
          try clear q9
          try clear q902
          try clear q903
          try clear q904
          try clear q905
          obtain ⟨x13_3, x14_3, rfl, rfl, HA, HK3, HB⟩ := hrel
          cases gk with
          | zero => exact absurd HA.out (by simp [stratumlaw13_TableFits.l1])
          | succ k3 =>
           have H := HA.out
           clear HA
           simp only [stratumlaw13_TableFits.l1] at H
           by_cases c37 : x13_3 = true
           ·subst c37
            have H1 : (if x14_3 < (l0.length : Int) then (if 0 ≤ x14_3 then (if x14_3 < (l2.length : Int) then (if ((rd_T35 l2 x14_3).f1) = ((rd_T35 l0 x14_3).f1) then (stratumlaw13_TableFits.l1 k3 l0 l1 l2 (((rd_T35 l2 x14_3).f2) == ((rd_T35 l0 x14_3).f2)) (wrap64 (x14_3 + 1))) else (stratumlaw13_TableFits.l1 k3 l0 l1 l2 false (wrap64 (x14_3 + 1)))) else (none)) else (none)) else ((table_Typed.f k3 l2 l1).bind fun t912 => (some ((t912 == 0) == true)))) = some r := by rw [if_pos rfl] at H; exact H
            clear H
            have H := H1
            clear H1
            by_cases c38 : x14_3 < (l0.length : Int)
            ·rw [if_pos c38] at H
             have c38b0 : decide (x14_3 < (l0.length : Int)) = true := decide_eq_true c38
             clear c38
             by_cases c39 : 0 ≤ x14_3
             ·rw [if_pos c39] at H
              have c39b0 : decide (0 ≤ x14_3) = true := decide_eq_true c39
              clear c39
              by_cases c40 : x14_3 < (l2.length : Int)
              ·rw [if_pos c40] at H
               have c40b0 : decide (x14_3 < (l2.length : Int)) = true := decide_eq_true c40
               clear c40
               by_cases c41 : ((rd_T35 l2 x14_3).f1) = ((rd_T35 l0 x14_3).f1)
               ·rw [if_pos c41] at H
                have c41b0 : (((rd_T35 l2 x14_3).f1) == ((rd_T35 l0 x14_3).f1)) = true := beq_iff_eq.mpr c41
                have c41b1 : (((rd_T35 l2 x14_3).f1) != ((rd_T35 l0 x14_3).f1)) = false := bne_eq_false_iff_eq.mpr c41
                clear c41
                have H' := Aside0.mk H
                clear H
                try go_wp2
                have n0_ := Aside0.mk (below_drew1 HB.out)
                clear HB
                have HB := n0_
                clear n0_
                have p908 : 0 ≤ (x14_3 : Int) := of_decide_eq_true (by first | (with_reducible assumption) | assumption)
                have q908 : x14_3 < (l2.length : Int) := of_decide_eq_true (by first | (with_reducible assumption) | assumption)
                obtain ⟨ad908, e908, hx908_0, hx908_1, hx908_2⟩ := at_T35 HR2.out x14_3 p908 q908
                have hw908_2 := hx908_2
                have hw908_1 := hx908_1
                have hw908_0 := hx908_0
                cases e908
                replace hx908_0 := (HB.out.cell (World.block_lt_of_cell? w _ hx908_0)).trans hx908_0
                replace hx908_1 := (HB.out.cell (World.block_lt_of_cell? w _ hx908_1)).trans hx908_1
                replace hx908_2 := (HB.out.cell (World.block_lt_of_cell? w _ hx908_2)).trans hx908_2
                replace p908 := eq_true p908
                replace q908 := eq_true q908
                have p909 : 0 ≤ (x14_3 : Int) := of_decide_eq_true (by first | (with_reducible assumption) | assumption)
                have q909 : x14_3 < (l0.length : Int) := of_decide_eq_true (by first | (with_reducible assumption) | assumption)
                obtain ⟨ad909, e909, hx909_0, hx909_1, hx909_2⟩ := at_T35 HR0.out x14_3 p909 q909
                have hw909_2 := hx909_2
                have hw909_1 := hx909_1
                have hw909_0 := hx909_0
                cases e909
                replace hx909_0 := (HB.out.cell (World.block_lt_of_cell? w _ hx909_0)).trans hx909_0
                replace hx909_1 := (HB.out.cell (World.block_lt_of_cell? w _ hx909_1)).trans hx909_1
                replace hx909_2 := (HB.out.cell (World.block_lt_of_cell? w _ hx909_2)).trans hx909_2
                replace p909 := eq_true p909
                replace q909 := eq_true q909
                have p910 : 0 ≤ (x14_3 : Int) := of_decide_eq_true (by first | (with_reducible assumption) | assumption)
                have q910 : x14_3 < (l2.length : Int) := of_decide_eq_true (by first | (with_reducible assumption) | assumption)
                obtain ⟨ad910, e910, hx910_0, hx910_1, hx910_2⟩ := at_T35 HR2.out x14_3 p910 q910
                have hw910_2 := hx910_2
                have hw910_1 := hx910_1
                have hw910_0 := hx910_0
                obtain rfl : ad908 = ad910 := (by injection e910)
                replace hx910_0 := (HB.out.cell (World.block_lt_of_cell? w _ hx910_0)).trans hx910_0
                replace hx910_1 := (HB.out.cell (World.block_lt_of_cell? w _ hx910_1)).trans hx910_1
                replace hx910_2 := (HB.out.cell (World.block_lt_of_cell? w _ hx910_2)).trans hx910_2
                replace p910 := eq_true p910
                replace q910 := eq_true q910
                have p911 : 0 ≤ (x14_3 : Int) := of_decide_eq_true (by first | (with_reducible assumption) | assumption)
                have q911 : x14_3 < (l0.length : Int) := of_decide_eq_true (by first | (with_reducible assumption) | assumption)
                obtain ⟨ad911, e911, hx911_0, hx911_1, hx911_2⟩ := at_T35 HR0.out x14_3 p911 q911
                have hw911_2 := hx911_2
                have hw911_1 := hx911_1
                have hw911_0 := hx911_0
                obtain rfl : ad909 = ad911 := (by injection e911)
                replace hx911_0 := (HB.out.cell (World.block_lt_of_cell? w _ hx911_0)).trans hx911_0
                replace hx911_1 := (HB.out.cell (World.block_lt_of_cell? w _ hx911_1)).trans hx911_1
                replace hx911_2 := (HB.out.cell (World.block_lt_of_cell? w _ hx911_2)).trans hx911_2
                replace p911 := eq_true p911
                replace q911 := eq_true q911
                refine start_ (n := 25) (S := fun w' => w'.cell? (ad908.add ((x14_3).toNat * 3)) = some (.string ((rd_T35 l2 x14_3).f0)) ∧ w'.cell? ⟨(ad908.add ((x14_3).toNat * 3)).block, (ad908.add ((x14_3).toNat * 3)).off + 1, none⟩ = some (.int .i64 ((rd_T35 l2 x14_3).f1)) ∧ w'.cell? ⟨(ad908.add ((x14_3).toNat * 3)).block, (ad908.add ((x14_3).toNat * 3)).off + 2, none⟩ = some (.int .i64 ((rd_T35 l2 x14_3).f2)) ∧ w'.cell? (ad909.add ((x14_3).toNat * 3)) = some (.string ((rd_T35 l0 x14_3).f0)) ∧ w'.cell? ⟨(ad909.add ((x14_3).toNat * 3)).block, (ad909.add ((x14_3).toNat * 3)).off + 1, none⟩ = some (.int .i64 ((rd_T35 l0 x14_3).f1)) ∧ w'.cell? ⟨(ad909.add ((x14_3).toNat * 3)).block, (ad909.add ((x14_3).toNat * 3)).off + 2, none⟩ = some (.int .i64 ((rd_T35 l0 x14_3).f2)) ∧ w'.cell? (ad908.add ((x14_3).toNat * 3)) = some (.string ((rd_T35 l2 x14_3).f0)) ∧ w'.cell? ⟨(ad908.add ((x14_3).toNat * 3)).block, (ad908.add ((x14_3).toNat * 3)).off + 1, none⟩ = some (.int .i64 ((rd_T35 l2 x14_3).f1)) ∧ w'.cell? ⟨(ad908.add ((x14_3).toNat * 3)).block, (ad908.add ((x14_3).toNat * 3)).off + 2, none⟩ = some (.int .i64 ((rd_T35 l2 x14_3).f2)) ∧ w'.cell? (ad909.add ((x14_3).toNat * 3)) = some (.string ((rd_T35 l0 x14_3).f0)) ∧ w'.cell? ⟨(ad909.add ((x14_3).toNat * 3)).block, (ad909.add ((x14_3).toNat * 3)).off + 1, none⟩ = some (.int .i64 ((rd_T35 l0 x14_3).f1)) ∧ w'.cell? ⟨(ad909.add ((x14_3).toNat * 3)).block, (ad909.add ((x14_3).toNat * 3)).off + 2, none⟩ = some (.int .i64 ((rd_T35 l0 x14_3).f2))) (ds := []) ⟨mk_ 25 0⟩ (by kernel_rfl) rfl rfl ⟨((HB.out.cell (World.block_lt_of_cell? w _ hw908_0)).trans hw908_0), ((HB.out.cell (World.block_lt_of_cell? w _ hw908_1)).trans hw908_1), ((HB.out.cell (World.block_lt_of_cell? w _ hw908_2)).trans hw908_2), ((HB.out.cell (World.block_lt_of_cell? w _ hw909_0)).trans hw909_0), ((HB.out.cell (World.block_lt_of_cell? w _ hw909_1)).trans hw909_1), ((HB.out.cell (World.block_lt_of_cell? w _ hw909_2)).trans hw909_2), ((HB.out.cell (World.block_lt_of_cell? w _ hw910_0)).trans hw910_0), ((HB.out.cell (World.block_lt_of_cell? w _ hw910_1)).trans hw910_1), ((HB.out.cell (World.block_lt_of_cell? w _ hw910_2)).trans hw910_2), ((HB.out.cell (World.block_lt_of_cell? w _ hw911_0)).trans hw911_0), ((HB.out.cell (World.block_lt_of_cell? w _ hw911_1)).trans hw911_1), ((HB.out.cell (World.block_lt_of_cell? w _ hw911_2)).trans hw911_2)⟩ (fun hHeld => ?_); refine with_tabW stratumlaw13_TableFits.tab19 stratumlaw13_TableFits.bits19 (fun HT_ HW_ => ?_)
                generalize wr.drew = w42 at HB hx908_0 hx908_1 hx908_2 hx909_0 hx909_1 hx909_2 hx910_0 hx910_1 hx910_2 hx911_0 hx911_1 hx911_2 hHeld ⊢
                refine pure_ (i := 0) (N := some 126) (v := ?_) (a' := ?_) ⟨mk_ 25 1⟩ rfl rfl (any_of HT_.out (by kernel_rfl)) (fun _ _ _ h => h) (Or.inl ⟨by rfl, ?_⟩) ?_ ?_
                rotate_left
                ·intro w'
                 go_simp
                 with_reducible rfl
                rotate_left
                ·simp only [Act.put, List.setIfInBounds_toArray, List.set_cons_zero, List.set_cons_succ, i64_w, i32_w]
                 rfl
                refine pure_ (i := 1) (N := some 127) (v := ?_) (a' := ?_) ⟨mk_ 25 3⟩ rfl rfl (any_of HT_.out (by kernel_rfl)) (fun _ _ _ h => h) (Or.inl ⟨by rfl, ?_⟩) ?_ ?_
                rotate_left
                ·intro w'
                 go_simp
                 with_reducible rfl
                rotate_left
                ·simp only [Act.put, List.setIfInBounds_toArray, List.set_cons_zero, List.set_cons_succ, i64_w, i32_w]
                 rfl
                refine pure_ (i := 2) (N := some 128) (v := ?_) (a' := ?_) ⟨mk_ 25 7⟩ rfl rfl (any_of HT_.out (by kernel_rfl)) (fun _ _ _ h => h) (Or.inl ⟨by rfl, ?_⟩) ?_ ?_
                rotate_left
                ·intro w'
                 go_simp
                 with_reducible rfl
                rotate_left
                ·simp only [Act.put, List.setIfInBounds_toArray, List.set_cons_zero, List.set_cons_succ, i64_w, i32_w]
                 rfl
                refine pure_ (i := 3) (N := some 129) (v := ?_) (a' := ?_) ⟨mk_ 25 15⟩ rfl rfl (any_of HT_.out (by kernel_rfl)) (fun _ _ _ h => h) (Or.inl ⟨by rfl, ?_⟩) ?_ ?_
                rotate_left
                ·intro w'
                 go_simp
                 with_reducible rfl
                rotate_left
                ·simp only [Act.put, List.setIfInBounds_toArray, List.set_cons_zero, List.set_cons_succ, i64_w, i32_w]
                 rfl
                refine pure_ (i := 5) (N := some 131) (v := ?_) (a' := ?_) ⟨mk_ 25 47⟩ rfl rfl (any_of HT_.out (by kernel_rfl)) (fun _ _ _ h => h) (Or.inl ⟨by rfl, ?_⟩) ?_ ?_
                rotate_left
                ·intro w'
                 go_simp
                 with_reducible rfl
                rotate_left
                ·simp only [Act.put, List.setIfInBounds_toArray, List.set_cons_zero, List.set_cons_succ, i64_w, i32_w]
                 rfl
                refine pure_ (i := 6) (N := some 132) (v := ?_) (a' := ?_) ⟨mk_ 25 111⟩ rfl rfl (any_of HT_.out (by kernel_rfl)) (fun _ _ _ h => h) (Or.inl ⟨by rfl, ?_⟩) ?_ ?_
                rotate_left
                ·intro w'
                 go_simp
                 with_reducible rfl
                rotate_left
                ·simp only [Act.put, List.setIfInBounds_toArray, List.set_cons_zero, List.set_cons_succ, i64_w, i32_w]
                 rfl
                refine pure_ (i := 7) (N := some 133) (v := ?_) (a' := ?_) ⟨mk_ 25 239⟩ rfl rfl (any_of HT_.out (by kernel_rfl)) (fun _ _ _ h => h) (Or.inl ⟨by rfl, ?_⟩) ?_ ?_
                rotate_left
                ·intro w'
                 go_simp
                 with_reducible rfl
                rotate_left
                ·simp only [Act.put, List.setIfInBounds_toArray, List.set_cons_zero, List.set_cons_succ, i64_w, i32_w]
                 rfl
                refine pure_ (i := 8) (N := some 134) (v := ?_) (a' := ?_) ⟨mk_ 25 495⟩ rfl rfl (any_of HT_.out (by kernel_rfl)) (fun _ _ _ h => h) (Or.inl ⟨by rfl, ?_⟩) ?_ ?_
                rotate_left
                ·intro w'
                 go_simp
                 with_reducible rfl
                rotate_left
                ·simp only [Act.put, List.setIfInBounds_toArray, List.set_cons_zero, List.set_cons_succ, i64_w, i32_w]
                 rfl
                refine take_ (i := 4) (N := some 130) (v := ?_) (a' := ?_) ⟨mk_ 25 511⟩ rfl rfl (take_ofW HT_.out HW_.out (by kernel_rfl)) (fun _ _ _ h => h) (Or.inl ⟨by rfl, ?_⟩) hHeld ?_ ?_
                rotate_left
                ·rintro w' ⟨s0, s1, s2, s3, s4, s5, s6, s7, s8, s9, s10, s11⟩
                 go_simp
                 with_reducible rfl
                rotate_left
                ·simp only [Act.put, List.setIfInBounds_toArray, List.set_cons_zero, List.set_cons_succ, i64_w, i32_w]
                 rfl
                refine take_ (i := 9) (N := some 135) (v := ?_) (a' := ?_) ⟨mk_ 25 1023⟩ rfl rfl (take_ofW HT_.out HW_.out (by kernel_rfl)) (fun _ _ _ h => h) (Or.inl ⟨by rfl, ?_⟩) hHeld ?_ ?_
                rotate_left
                ·rintro w' ⟨s0, s1, s2, s3, s4, s5, s6, s7, s8, s9, s10, s11⟩
                 go_simp
                 with_reducible rfl
                rotate_left
                ·simp only [Act.put, List.setIfInBounds_toArray, List.set_cons_zero, List.set_cons_succ, i64_w, i32_w]
                 rfl
                refine pure_ (i := 10) (N := some 136) (v := ?_) (a' := ?_) ⟨mk_ 25 2047⟩ rfl rfl (any_of HT_.out (by kernel_rfl)) (fun _ _ _ h => h) (Or.inl ⟨by rfl, ?_⟩) ?_ ?_
                rotate_left
                ·intro w'
                 go_simp
                 with_reducible rfl
                rotate_left
                ·simp only [Act.put, List.setIfInBounds_toArray, List.set_cons_zero, List.set_cons_succ, i64_w, i32_w]
                 rfl
                refine pure_ (i := 11) (N := some 137) (v := ?_) (a' := ?_) ⟨mk_ 25 4095⟩ rfl rfl (any_of HT_.out (by kernel_rfl)) (fun _ _ _ h => h) (Or.inl ⟨by rfl, ?_⟩) ?_ ?_
                rotate_left
                ·intro w'
                 go_simp
                 with_reducible rfl
                rotate_left
                ·simp only [Act.put, List.setIfInBounds_toArray, List.set_cons_zero, List.set_cons_succ, i64_w, i32_w]
                 rfl
                refine pure_ (i := 12) (N := some 138) (v := ?_) (a' := ?_) ⟨mk_ 25 8191⟩ rfl rfl (any_of HT_.out (by kernel_rfl)) (fun _ _ _ h => h) (Or.inl ⟨by rfl, ?_⟩) ?_ ?_
                rotate_left
                ·intro w'
                 go_simp
                 with_reducible rfl
                rotate_left
                ·simp only [Act.put, List.setIfInBounds_toArray, List.set_cons_zero, List.set_cons_succ, i64_w, i32_w]
                 rfl
                refine pure_ (i := 13) (N := some 139) (v := ?_) (a' := ?_) ⟨mk_ 25 16383⟩ rfl rfl (any_of HT_.out (by kernel_rfl)) (fun _ _ _ h => h) (Or.inl ⟨by rfl, ?_⟩) ?_ ?_
                rotate_left
                ·intro w'
                 go_simp
                 with_reducible rfl
                rotate_left
                ·simp only [Act.put, List.setIfInBounds_toArray, List.set_cons_zero, List.set_cons_succ, i64_w, i32_w]
                 rfl
                refine pure_ (i := 14) (N := some 140) (v := ?_) (a' := ?_) ⟨mk_ 25 32767⟩ rfl rfl (any_of HT_.out (by kernel_rfl)) (fun _ _ _ h => h) (Or.inl ⟨by rfl, ?_⟩) ?_ ?_
                rotate_left
                ·intro w'
                 go_simp
                 with_reducible rfl
                rotate_left
                ·simp only [Act.put, List.setIfInBounds_toArray, List.set_cons_zero, List.set_cons_succ, i64_w, i32_w]
                 rfl
                refine pure_ (i := 15) (N := some 141) (v := ?_) (a' := ?_) ⟨mk_ 25 65535⟩ rfl rfl (any_of HT_.out (by kernel_rfl)) (fun _ _ _ h => h) (Or.inl ⟨by rfl, ?_⟩) ?_ ?_
                rotate_left
                ·intro w'
                 go_simp
                 with_reducible rfl
                rotate_left
                ·simp only [Act.put, List.setIfInBounds_toArray, List.set_cons_zero, List.set_cons_succ, i64_w, i32_w]
                 rfl
                refine pure_ (i := 17) (N := some 143) (v := ?_) (a' := ?_) ⟨mk_ 25 196607⟩ rfl rfl (any_of HT_.out (by kernel_rfl)) (fun _ _ _ h => h) (Or.inl ⟨by rfl, ?_⟩) ?_ ?_
                rotate_left
                ·intro w'
                 go_simp
                 with_reducible rfl
                rotate_left
                ·simp only [Act.put, List.setIfInBounds_toArray, List.set_cons_zero, List.set_cons_succ, i64_w, i32_w]
                 rfl
                refine pure_ (i := 18) (N := some 144) (v := ?_) (a' := ?_) ⟨mk_ 25 458751⟩ rfl rfl (any_of HT_.out (by kernel_rfl)) (fun _ _ _ h => h) (Or.inl ⟨by rfl, ?_⟩) ?_ ?_
                rotate_left
                ·intro w'
                 go_simp
                 with_reducible rfl
                rotate_left
                ·simp only [Act.put, List.setIfInBounds_toArray, List.set_cons_zero, List.set_cons_succ, i64_w, i32_w]
                 rfl
                refine pure_ (i := 19) (N := some 145) (v := ?_) (a' := ?_) ⟨mk_ 25 983039⟩ rfl rfl (any_of HT_.out (by kernel_rfl)) (fun _ _ _ h => h) (Or.inl ⟨by rfl, ?_⟩) ?_ ?_
                rotate_left
                ·intro w'
                 go_simp
                 with_reducible rfl
                rotate_left
                ·simp only [Act.put, List.setIfInBounds_toArray, List.set_cons_zero, List.set_cons_succ, i64_w, i32_w]
                 rfl
                refine pure_ (i := 20) (N := some 146) (v := ?_) (a' := ?_) ⟨mk_ 25 2031615⟩ rfl rfl (any_of HT_.out (by kernel_rfl)) (fun _ _ _ h => h) (Or.inl ⟨by rfl, ?_⟩) ?_ ?_
                rotate_left
                ·intro w'
                 go_simp
                 with_reducible rfl
                rotate_left
                ·simp only [Act.put, List.setIfInBounds_toArray, List.set_cons_zero, List.set_cons_succ, i64_w, i32_w]
                 rfl
                refine take_ (i := 16) (N := some 142) (v := ?_) (a' := ?_) ⟨mk_ 25 2097151⟩ rfl rfl (take_ofW HT_.out HW_.out (by kernel_rfl)) (fun _ _ _ h => h) (Or.inl ⟨by rfl, ?_⟩) hHeld ?_ ?_
                rotate_left
                ·rintro w' ⟨s0, s1, s2, s3, s4, s5, s6, s7, s8, s9, s10, s11⟩
                 go_simp
                 with_reducible rfl
                rotate_left
                ·simp only [Act.put, List.setIfInBounds_toArray, List.set_cons_zero, List.set_cons_succ, i64_w, i32_w]
                 rfl
                refine take_ (i := 21) (N := some 147) (v := ?_) (a' := ?_) ⟨mk_ 25 4194303⟩ rfl rfl (take_ofW HT_.out HW_.out (by kernel_rfl)) (fun _ _ _ h => h) (Or.inl ⟨by rfl, ?_⟩) hHeld ?_ ?_
                rotate_left
                ·rintro w' ⟨s0, s1, s2, s3, s4, s5, s6, s7, s8, s9, s10, s11⟩
                 go_simp
                 with_reducible rfl
                rotate_left
                ·simp only [Act.put, List.setIfInBounds_toArray, List.set_cons_zero, List.set_cons_succ, i64_w, i32_w]
                 rfl
                refine pure_ (i := 22) (N := some 148) (v := ?_) (a' := ?_) ⟨mk_ 25 8388607⟩ rfl rfl (any_of HT_.out (by kernel_rfl)) (fun _ _ _ h => h) (Or.inl ⟨by rfl, ?_⟩) ?_ ?_
                rotate_left
                ·intro w'
                 go_simp
                 with_reducible rfl
                rotate_left
                ·simp only [Act.put, List.setIfInBounds_toArray, List.set_cons_zero, List.set_cons_succ, i64_w, i32_w]
                 rfl
                refine pure_ (i := 23) (N := some 149) (v := ?_) (a' := ?_) ⟨mk_ 25 16777215⟩ rfl rfl (any_of HT_.out (by kernel_rfl)) (fun _ _ _ h => h) (Or.inl ⟨by rfl, ?_⟩) ?_ ?_
                rotate_left
                ·intro w'
                 go_simp
                 with_reducible rfl
                rotate_left
                ·simp only [Act.put, List.setIfInBounds_toArray, List.set_cons_zero, List.set_cons_succ, i64_w, i32_w]
                 rfl
                refine pure_ (i := 24) (N := some 13) (v := ?_) (a' := ?_) ⟨mk_ 25 33554431⟩ rfl rfl (any_of HT_.out (by kernel_rfl)) (fun _ _ _ h => h) (Or.inl ⟨by rfl, ?_⟩) ?_ ?_
                rotate_left
                ·intro w'
                 go_simp
                 with_reducible rfl
                rotate_left
                ·simp only [Act.put, List.setIfInBounds_toArray, List.set_cons_zero, List.set_cons_succ, i64_w, i32_w]
                 rfl
                refine done_ (done_of HT_.out (by kernel_rfl)) ?_
                try go_wp2
                go_roundg k3
                case measure => have := HJ9.out; have := HK2.out; have := HK3.out; omega
                case rel => exact ⟨((((rd_T35 l2 x14_3).f2) == ((rd_T35 l0 x14_3).f2))), (wrap64 (x14_3 + 1)), (by first | rfl | (simp; done) | (simp [*]; done)), (by first | rfl | (simp; done) | (simp [*]; done)), H', ⟨by have := HJ9.out; have := HK2.out; have := HK3.out; omega⟩, ⟨by repeat (first | (with_reducible first | exact HB.out | apply below_alloc | apply pw_below_drewN | apply below_drew1) | exact HB.out)⟩⟩
               ·rw [if_neg c41] at H
                have c41b0 : (((rd_T35 l2 x14_3).f1) == ((rd_T35 l0 x14_3).f1)) = false := beq_eq_false_iff_ne.mpr c41
                have c41b1 : (((rd_T35 l2 x14_3).f1) != ((rd_T35 l0 x14_3).f1)) = true := bne_iff_ne.mpr c41
                have H' := Aside0.mk H
                clear H
                try go_wp2
                have n0_ := Aside0.mk (below_drew1 HB.out)
                clear HB
                have HB := n0_
                clear n0_
                have p908 : 0 ≤ (x14_3 : Int) := of_decide_eq_true (by first | (with_reducible assumption) | assumption)
                have q908 : x14_3 < (l2.length : Int) := of_decide_eq_true (by first | (with_reducible assumption) | assumption)
                obtain ⟨ad908, e908, hx908_0, hx908_1, hx908_2⟩ := at_T35 HR2.out x14_3 p908 q908
                have hw908_2 := hx908_2
                have hw908_1 := hx908_1
                have hw908_0 := hx908_0
                cases e908
                replace hx908_0 := (HB.out.cell (World.block_lt_of_cell? w _ hx908_0)).trans hx908_0
                replace hx908_1 := (HB.out.cell (World.block_lt_of_cell? w _ hx908_1)).trans hx908_1
                replace hx908_2 := (HB.out.cell (World.block_lt_of_cell? w _ hx908_2)).trans hx908_2
                replace p908 := eq_true p908
                replace q908 := eq_true q908
                have p909 : 0 ≤ (x14_3 : Int) := of_decide_eq_true (by first | (with_reducible assumption) | assumption)
                have q909 : x14_3 < (l0.length : Int) := of_decide_eq_true (by first | (with_reducible assumption) | assumption)
                obtain ⟨ad909, e909, hx909_0, hx909_1, hx909_2⟩ := at_T35 HR0.out x14_3 p909 q909
                have hw909_2 := hx909_2
                have hw909_1 := hx909_1
                have hw909_0 := hx909_0
                cases e909
                replace hx909_0 := (HB.out.cell (World.block_lt_of_cell? w _ hx909_0)).trans hx909_0
                replace hx909_1 := (HB.out.cell (World.block_lt_of_cell? w _ hx909_1)).trans hx909_1
                replace hx909_2 := (HB.out.cell (World.block_lt_of_cell? w _ hx909_2)).trans hx909_2
                replace p909 := eq_true p909
                replace q909 := eq_true q909
                refine start_ (n := 25) (S := fun w' => w'.cell? (ad908.add ((x14_3).toNat * 3)) = some (.string ((rd_T35 l2 x14_3).f0)) ∧ w'.cell? ⟨(ad908.add ((x14_3).toNat * 3)).block, (ad908.add ((x14_3).toNat * 3)).off + 1, none⟩ = some (.int .i64 ((rd_T35 l2 x14_3).f1)) ∧ w'.cell? ⟨(ad908.add ((x14_3).toNat * 3)).block, (ad908.add ((x14_3).toNat * 3)).off + 2, none⟩ = some (.int .i64 ((rd_T35 l2 x14_3).f2)) ∧ w'.cell? (ad909.add ((x14_3).toNat * 3)) = some (.string ((rd_T35 l0 x14_3).f0)) ∧ w'.cell? ⟨(ad909.add ((x14_3).toNat * 3)).block, (ad909.add ((x14_3).toNat * 3)).off + 1, none⟩ = some (.int .i64 ((rd_T35 l0 x14_3).f1)) ∧ w'.cell? ⟨(ad909.add ((x14_3).toNat * 3)).block, (ad909.add ((x14_3).toNat * 3)).off + 2, none⟩ = some (.int .i64 ((rd_T35 l0 x14_3).f2))) (ds := []) ⟨mk_ 25 0⟩ (by kernel_rfl) rfl rfl ⟨((HB.out.cell (World.block_lt_of_cell? w _ hw908_0)).trans hw908_0), ((HB.out.cell (World.block_lt_of_cell? w _ hw908_1)).trans hw908_1), ((HB.out.cell (World.block_lt_of_cell? w _ hw908_2)).trans hw908_2), ((HB.out.cell (World.block_lt_of_cell? w _ hw909_0)).trans hw909_0), ((HB.out.cell (World.block_lt_of_cell? w _ hw909_1)).trans hw909_1), ((HB.out.cell (World.block_lt_of_cell? w _ hw909_2)).trans hw909_2)⟩ (fun hHeld => ?_); refine with_tabW stratumlaw13_TableFits.tab19 stratumlaw13_TableFits.bits19 (fun HT_ HW_ => ?_)
                generalize wr.drew = w43 at HB hx908_0 hx908_1 hx908_2 hx909_0 hx909_1 hx909_2 hHeld ⊢
                refine pure_ (i := 0) (N := some 126) (v := ?_) (a' := ?_) ⟨mk_ 25 1⟩ rfl rfl (any_of HT_.out (by kernel_rfl)) (fun _ _ _ h => h) (Or.inl ⟨by rfl, ?_⟩) ?_ ?_
                rotate_left
                ·intro w'
                 go_simp
                 with_reducible rfl
                rotate_left
                ·simp only [Act.put, List.setIfInBounds_toArray, List.set_cons_zero, List.set_cons_succ, i64_w, i32_w]
                 rfl
                refine pure_ (i := 1) (N := some 127) (v := ?_) (a' := ?_) ⟨mk_ 25 3⟩ rfl rfl (any_of HT_.out (by kernel_rfl)) (fun _ _ _ h => h) (Or.inl ⟨by rfl, ?_⟩) ?_ ?_
                rotate_left
                ·intro w'
                 go_simp
                 with_reducible rfl
                rotate_left
                ·simp only [Act.put, List.setIfInBounds_toArray, List.set_cons_zero, List.set_cons_succ, i64_w, i32_w]
                 rfl
                refine pure_ (i := 2) (N := some 128) (v := ?_) (a' := ?_) ⟨mk_ 25 7⟩ rfl rfl (any_of HT_.out (by kernel_rfl)) (fun _ _ _ h => h) (Or.inl ⟨by rfl, ?_⟩) ?_ ?_
                rotate_left
                ·intro w'
                 go_simp
                 with_reducible rfl
                rotate_left
                ·simp only [Act.put, List.setIfInBounds_toArray, List.set_cons_zero, List.set_cons_succ, i64_w, i32_w]
                 rfl
                refine pure_ (i := 3) (N := some 129) (v := ?_) (a' := ?_) ⟨mk_ 25 15⟩ rfl rfl (any_of HT_.out (by kernel_rfl)) (fun _ _ _ h => h) (Or.inl ⟨by rfl, ?_⟩) ?_ ?_
                rotate_left
                ·intro w'
                 go_simp
                 with_reducible rfl
                rotate_left
                ·simp only [Act.put, List.setIfInBounds_toArray, List.set_cons_zero, List.set_cons_succ, i64_w, i32_w]
                 rfl
                refine pure_ (i := 5) (N := some 131) (v := ?_) (a' := ?_) ⟨mk_ 25 47⟩ rfl rfl (any_of HT_.out (by kernel_rfl)) (fun _ _ _ h => h) (Or.inl ⟨by rfl, ?_⟩) ?_ ?_
                rotate_left
                ·intro w'
                 go_simp
                 with_reducible rfl
                rotate_left
                ·simp only [Act.put, List.setIfInBounds_toArray, List.set_cons_zero, List.set_cons_succ, i64_w, i32_w]
                 rfl
                refine pure_ (i := 6) (N := some 132) (v := ?_) (a' := ?_) ⟨mk_ 25 111⟩ rfl rfl (any_of HT_.out (by kernel_rfl)) (fun _ _ _ h => h) (Or.inl ⟨by rfl, ?_⟩) ?_ ?_
                rotate_left
                ·intro w'
                 go_simp
                 with_reducible rfl
                rotate_left
                ·simp only [Act.put, List.setIfInBounds_toArray, List.set_cons_zero, List.set_cons_succ, i64_w, i32_w]
                 rfl
                refine pure_ (i := 7) (N := some 133) (v := ?_) (a' := ?_) ⟨mk_ 25 239⟩ rfl rfl (any_of HT_.out (by kernel_rfl)) (fun _ _ _ h => h) (Or.inl ⟨by rfl, ?_⟩) ?_ ?_
                rotate_left
                ·intro w'
                 go_simp
                 with_reducible rfl
                rotate_left
                ·simp only [Act.put, List.setIfInBounds_toArray, List.set_cons_zero, List.set_cons_succ, i64_w, i32_w]
                 rfl
                refine pure_ (i := 8) (N := some 134) (v := ?_) (a' := ?_) ⟨mk_ 25 495⟩ rfl rfl (any_of HT_.out (by kernel_rfl)) (fun _ _ _ h => h) (Or.inl ⟨by rfl, ?_⟩) ?_ ?_
                rotate_left
                ·intro w'
                 go_simp
                 with_reducible rfl
                rotate_left
                ·simp only [Act.put, List.setIfInBounds_toArray, List.set_cons_zero, List.set_cons_succ, i64_w, i32_w]
                 rfl
                refine take_ (i := 4) (N := some 130) (v := ?_) (a' := ?_) ⟨mk_ 25 511⟩ rfl rfl (take_ofW HT_.out HW_.out (by kernel_rfl)) (fun _ _ _ h => h) (Or.inl ⟨by rfl, ?_⟩) hHeld ?_ ?_
                rotate_left
                ·rintro w' ⟨s0, s1, s2, s3, s4, s5⟩
                 go_simp
                 with_reducible rfl
                rotate_left
                ·simp only [Act.put, List.setIfInBounds_toArray, List.set_cons_zero, List.set_cons_succ, i64_w, i32_w]
                 rfl
                refine take_ (i := 9) (N := some 135) (v := ?_) (a' := ?_) ⟨mk_ 25 1023⟩ rfl rfl (take_ofW HT_.out HW_.out (by kernel_rfl)) (fun _ _ _ h => h) (Or.inl ⟨by rfl, ?_⟩) hHeld ?_ ?_
                rotate_left
                ·rintro w' ⟨s0, s1, s2, s3, s4, s5⟩
                 go_simp
                 with_reducible rfl
                rotate_left
                ·simp only [Act.put, List.setIfInBounds_toArray, List.set_cons_zero, List.set_cons_succ, i64_w, i32_w]
                 rfl
                refine pure_ (i := 10) (N := some 136) (v := ?_) (a' := ?_) ⟨mk_ 25 2047⟩ rfl rfl (any_of HT_.out (by kernel_rfl)) (fun _ _ _ h => h) (Or.inl ⟨by rfl, ?_⟩) ?_ ?_
                rotate_left
                ·intro w'
                 go_simp
                 with_reducible rfl
                rotate_left
                ·simp only [Act.put, List.setIfInBounds_toArray, List.set_cons_zero, List.set_cons_succ, i64_w, i32_w]
                 rfl
                refine pure_ (i := 11) (N := some 137) (v := ?_) (a' := ?_) ⟨mk_ 25 4095⟩ rfl rfl (any_of HT_.out (by kernel_rfl)) (fun _ _ _ h => h) (Or.inl ⟨by rfl, ?_⟩) ?_ ?_
                rotate_left
                ·intro w'
                 go_simp
                 with_reducible rfl
                rotate_left
                ·simp only [Act.put, List.setIfInBounds_toArray, List.set_cons_zero, List.set_cons_succ, i64_w, i32_w]
                 rfl
                refine pure_ (i := 12) (N := some 138) (v := undef) (a' := ?_) ⟨mk_ 25 8191⟩ rfl rfl (any_of HT_.out (by kernel_rfl)) (fun _ _ _ h => h) (Or.inr ⟨by rfl, rfl⟩) ?_ ?_
                rotate_left
                ·simp only [Act.put, List.setIfInBounds_toArray, List.set_cons_zero, List.set_cons_succ, i64_w, i32_w]
                 rfl
                refine pure_ (i := 13) (N := some 139) (v := undef) (a' := ?_) ⟨mk_ 25 16383⟩ rfl rfl (any_of HT_.out (by kernel_rfl)) (fun _ _ _ h => h) (Or.inr ⟨by rfl, rfl⟩) ?_ ?_
                rotate_left
                ·simp only [Act.put, List.setIfInBounds_toArray, List.set_cons_zero, List.set_cons_succ, i64_w, i32_w]
                 rfl
                refine pure_ (i := 14) (N := some 140) (v := undef) (a' := ?_) ⟨mk_ 25 32767⟩ rfl rfl (any_of HT_.out (by kernel_rfl)) (fun _ _ _ h => h) (Or.inr ⟨by rfl, rfl⟩) ?_ ?_
                rotate_left
                ·simp only [Act.put, List.setIfInBounds_toArray, List.set_cons_zero, List.set_cons_succ, i64_w, i32_w]
                 rfl
                refine pure_ (i := 15) (N := some 141) (v := undef) (a' := ?_) ⟨mk_ 25 65535⟩ rfl rfl (any_of HT_.out (by kernel_rfl)) (fun _ _ _ h => h) (Or.inr ⟨by rfl, rfl⟩) ?_ ?_
                rotate_left
                ·simp only [Act.put, List.setIfInBounds_toArray, List.set_cons_zero, List.set_cons_succ, i64_w, i32_w]
                 rfl
                refine pure_ (i := 16) (N := some 142) (v := undef) (a' := ?_) ⟨mk_ 25 131071⟩ rfl rfl (any_of HT_.out (by kernel_rfl)) (fun _ _ _ h => h) (Or.inr ⟨by rfl, rfl⟩) ?_ ?_
                rotate_left
                ·simp only [Act.put, List.setIfInBounds_toArray, List.set_cons_zero, List.set_cons_succ, i64_w, i32_w]
                 rfl
                refine pure_ (i := 17) (N := some 143) (v := undef) (a' := ?_) ⟨mk_ 25 262143⟩ rfl rfl (any_of HT_.out (by kernel_rfl)) (fun _ _ _ h => h) (Or.inr ⟨by rfl, rfl⟩) ?_ ?_
                rotate_left
                ·simp only [Act.put, List.setIfInBounds_toArray, List.set_cons_zero, List.set_cons_succ, i64_w, i32_w]
                 rfl
                refine pure_ (i := 18) (N := some 144) (v := undef) (a' := ?_) ⟨mk_ 25 524287⟩ rfl rfl (any_of HT_.out (by kernel_rfl)) (fun _ _ _ h => h) (Or.inr ⟨by rfl, rfl⟩) ?_ ?_
                rotate_left
                ·simp only [Act.put, List.setIfInBounds_toArray, List.set_cons_zero, List.set_cons_succ, i64_w, i32_w]
                 rfl
                refine pure_ (i := 19) (N := some 145) (v := undef) (a' := ?_) ⟨mk_ 25 1048575⟩ rfl rfl (any_of HT_.out (by kernel_rfl)) (fun _ _ _ h => h) (Or.inr ⟨by rfl, rfl⟩) ?_ ?_
                rotate_left
                ·simp only [Act.put, List.setIfInBounds_toArray, List.set_cons_zero, List.set_cons_succ, i64_w, i32_w]
                 rfl
                refine pure_ (i := 20) (N := some 146) (v := undef) (a' := ?_) ⟨mk_ 25 2097151⟩ rfl rfl (any_of HT_.out (by kernel_rfl)) (fun _ _ _ h => h) (Or.inr ⟨by rfl, rfl⟩) ?_ ?_
                rotate_left
                ·simp only [Act.put, List.setIfInBounds_toArray, List.set_cons_zero, List.set_cons_succ, i64_w, i32_w]
                 rfl
                refine pure_ (i := 21) (N := some 147) (v := undef) (a' := ?_) ⟨mk_ 25 4194303⟩ rfl rfl (any_of HT_.out (by kernel_rfl)) (fun _ _ _ h => h) (Or.inr ⟨by rfl, rfl⟩) ?_ ?_
                rotate_left
                ·simp only [Act.put, List.setIfInBounds_toArray, List.set_cons_zero, List.set_cons_succ, i64_w, i32_w]
                 rfl
                refine pure_ (i := 22) (N := some 148) (v := undef) (a' := ?_) ⟨mk_ 25 8388607⟩ rfl rfl (any_of HT_.out (by kernel_rfl)) (fun _ _ _ h => h) (Or.inr ⟨by rfl, rfl⟩) ?_ ?_
                rotate_left
                ·simp only [Act.put, List.setIfInBounds_toArray, List.set_cons_zero, List.set_cons_succ, i64_w, i32_w]
                 rfl
                refine pure_ (i := 23) (N := some 149) (v := ?_) (a' := ?_) ⟨mk_ 25 16777215⟩ rfl rfl (any_of HT_.out (by kernel_rfl)) (fun _ _ _ h => h) (Or.inl ⟨by rfl, ?_⟩) ?_ ?_
                rotate_left
                ·intro w'
                 go_simp
                 with_reducible rfl
                rotate_left
                ·simp only [Act.put, List.setIfInBounds_toArray, List.set_cons_zero, List.set_cons_succ, i64_w, i32_w]
                 rfl
                refine pure_ (i := 24) (N := some 13) (v := ?_) (a' := ?_) ⟨mk_ 25 33554431⟩ rfl rfl (any_of HT_.out (by kernel_rfl)) (fun _ _ _ h => h) (Or.inl ⟨by rfl, ?_⟩) ?_ ?_
                rotate_left
                ·intro w'
                 go_simp
                 with_reducible rfl
                rotate_left
                ·simp only [Act.put, List.setIfInBounds_toArray, List.set_cons_zero, List.set_cons_succ, i64_w, i32_w]
                 rfl
                refine done_ (done_of HT_.out (by kernel_rfl)) ?_
                try go_wp2
                go_roundg k3
                case measure => have := HJ9.out; have := HK2.out; have := HK3.out; omega
                case rel => exact ⟨(false), (wrap64 (x14_3 + 1)), (by first | rfl | (simp; done) | (simp [*]; done)), (by first | rfl | (simp; done) | (simp [*]; done)), H', ⟨by have := HJ9.out; have := HK2.out; have := HK3.out; omega⟩, ⟨by repeat (first | (with_reducible first | exact HB.out | apply below_alloc | apply pw_below_drewN | apply below_drew1) | exact HB.out)⟩⟩
              ·rw [if_neg c40] at H
               exact absurd H (by simp)
             ·rw [if_neg c39] at H
              exact absurd H (by simp)
            ·rw [if_neg c38] at H
             have c38b0 : decide (x14_3 < (l0.length : Int)) = false := decide_eq_false c38
             clear c38
             replace H := Option.bind_eq_some_iff.mp H
             obtain ⟨t912, A440, H⟩ := H
             replace H : (some ((t912 == 0) == true)) = some r := H
             have A44 := Aside0.mk A440
             clear A440
             obtain rfl := Option.some.inj H
             go_wp2_with (first | ((with_reducible refine gate_callee (f := 26) rfl ?_); refine goesL_ (some 152) rfl rfl Try.func26 (by kernel_rfl) rfl #[.slice A2 l2.length c2, .slice A1 l1.length c1] rfl (by (try simp only [List.map_toArray, List.map_cons, List.map_nil]); first | done | rfl | (simp only [List.length_drop, List.length_take]; rfl)) ?_; (with_reducible refine (table_Typed.calls k3 _ _ l2 _ _ l1 t912 _ ?side1 ?side2 ?side3 ?side4 A44.out).mono ?_); (case side1 => repeat (first | exact (Kd.C_below HR2.out HB.out) | (with_reducible refine Kd.C_alloc ?_ _) | (with_reducible refine Kd.C_drewN ?_ _) | (with_reducible refine Kd.C_drew ?_))); (case side2 => exact HC2.out); (case side3 => repeat (first | exact (Kd.C_below HR1.out HB.out) | (with_reducible refine Kd.C_alloc ?_ _) | (with_reducible refine Kd.C_drewN ?_ _) | (with_reducible refine Kd.C_drew ?_))); (case side4 => exact HC1.out); rintro e w45 ⟨rfl, hb⟩; refine ⟨_, rfl, ?_⟩; have n0_ := Aside0.mk (below_step (by repeat (first | (with_reducible first | exact HB.out | apply below_alloc | apply pw_below_drewN | apply below_drew1) | exact HB.out)) hb); clear HB; have HB := n0_; clear n0_; (try clear hb); (try clear hb2); (try clear hk); (try clear hi)))
             go_ret
             exact ⟨by first | rfl | (simp [errW_none, errW_some] <;> rfl) | (simp [*, errW_none, errW_some] <;> rfl), by repeat (first | (with_reducible first | exact HB.out | apply below_alloc | apply pw_below_drewN | apply below_drew1) | exact HB.out)⟩
           ·replace c37 := Bool.eq_false_iff.mpr c37
            subst c37
            have H1 : ((table_Typed.f k3 l2 l1).bind fun t913 => (some ((t913 == 0) == false))) = some r := by rw [if_neg (show ¬ (false = true) by decide)] at H; exact H
            clear H
            have H := H1
            clear H1
            replace H := Option.bind_eq_some_iff.mp H
            obtain ⟨t913, A460, H⟩ := H
            replace H : (some ((t913 == 0) == false)) = some r := H
            have A46 := Aside0.mk A460
            clear A460
            obtain rfl := Option.some.inj H
            go_wp2_with (first | ((with_reducible refine gate_callee (f := 26) rfl ?_); refine goesL_ (some 152) rfl rfl Try.func26 (by kernel_rfl) rfl #[.slice A2 l2.length c2, .slice A1 l1.length c1] rfl (by (try simp only [List.map_toArray, List.map_cons, List.map_nil]); first | done | rfl | (simp only [List.length_drop, List.length_take]; rfl)) ?_; (with_reducible refine (table_Typed.calls k3 _ _ l2 _ _ l1 t913 _ ?side1 ?side2 ?side3 ?side4 A46.out).mono ?_); (case side1 => repeat (first | exact (Kd.C_below HR2.out HB.out) | (with_reducible refine Kd.C_alloc ?_ _) | (with_reducible refine Kd.C_drewN ?_ _) | (with_reducible refine Kd.C_drew ?_))); (case side2 => exact HC2.out); (case side3 => repeat (first | exact (Kd.C_below HR1.out HB.out) | (with_reducible refine Kd.C_alloc ?_ _) | (with_reducible refine Kd.C_drewN ?_ _) | (with_reducible refine Kd.C_drew ?_))); (case side4 => exact HC1.out); rintro e w47 ⟨rfl, hb⟩; refine ⟨_, rfl, ?_⟩; have n0_ := Aside0.mk (below_step (by repeat (first | (with_reducible first | exact HB.out | apply below_alloc | apply pw_below_drewN | apply below_drew1) | exact HB.out)) hb); clear HB; have HB := n0_; clear n0_; (try clear hb); (try clear hb2); (try clear hk); (try clear hi)))
            go_ret
            exact ⟨by first | rfl | (simp [errW_none, errW_some] <;> rfl) | (simp [*, errW_none, errW_some] <;> rfl), by repeat (first | (with_reducible first | exact HB.out | apply below_alloc | apply pw_below_drewN | apply below_drew1) | exact HB.out)⟩
  ·rw [if_neg c7] at H
   have c7b0 : (t883 == 0) = false := beq_eq_false_iff_ne.mpr c7
   have c7b1 : (t883 != 0) = true := bne_iff_ne.mpr c7
   by_cases c48 : t883 = 130
   ·rw [if_pos c48] at H
    have c48b0 : (t883 == 130) = true := beq_iff_eq.mpr c48
    have c48b1 : (t883 != 130) = false := bne_eq_false_iff_eq.mpr c48
    clear c48
    obtain rfl := Option.some.inj H
    go_enter Try.func17, Try.ntmps17
    try go_wp2_with (first | ((with_reducible refine gate_callee (f := 18) rfl ?_); refine goesL_ (some 15) rfl rfl Try.func18 (by kernel_rfl) rfl #[] rfl (by (try simp only [List.map_toArray, List.map_cons, List.map_nil]); first | done | rfl | (simp only [List.length_drop, List.length_take]; rfl)) ?_; (with_reducible refine (stratumlaw13_awake.calls k  true _ A4.out).mono ?_); rintro e w49 ⟨rfl, hb⟩; refine ⟨_, rfl, ?_⟩; have n0_ := Aside0.mk (below_step (by repeat (first | (with_reducible first | exact HB.out | apply below_alloc | apply pw_below_drewN | apply below_drew1) | exact HB.out)) hb); clear HB; have HB := n0_; clear n0_; (try clear hb); (try clear hb2); (try clear hk); (try clear hi)) | ((with_reducible refine gate_callee (f := 26) rfl ?_); refine goesL_ (some 19) rfl rfl Try.func26 (by kernel_rfl) rfl #[.slice A0 l0.length c0, .slice A1 l1.length c1] rfl (by (try simp only [List.map_toArray, List.map_cons, List.map_nil]); first | done | rfl | (simp only [List.length_drop, List.length_take]; rfl)) ?_; (with_reducible refine (table_Typed.calls k _ _ l0 _ _ l1 t883 _ ?side1 ?side2 ?side3 ?side4 A6.out).mono ?_); (case side1 => repeat (first | exact (Kd.C_below HR0.out HB.out) | (with_reducible refine Kd.C_alloc ?_ _) | (with_reducible refine Kd.C_drewN ?_ _) | (with_reducible refine Kd.C_drew ?_))); (case side2 => exact HC0.out); (case side3 => repeat (first | exact (Kd.C_below HR1.out HB.out) | (with_reducible refine Kd.C_alloc ?_ _) | (with_reducible refine Kd.C_drewN ?_ _) | (with_reducible refine Kd.C_drew ?_))); (case side4 => exact HC1.out); rintro e w50 ⟨rfl, hb⟩; refine ⟨_, rfl, ?_⟩; have n0_ := Aside0.mk (below_step (by repeat (first | (with_reducible first | exact HB.out | apply below_alloc | apply pw_below_drewN | apply below_drew1) | exact HB.out)) hb); clear HB; have HB := n0_; clear n0_; (try clear hb); (try clear hb2); (try clear hk); (try clear hi)))
    have n0_ := Aside0.mk (below_drew1 HB.out)
    clear HB
    have HB := n0_
    clear n0_
    refine start_ (n := 22) (S := fun w' => True) (ds := []) ⟨mk_ 22 0⟩ (by kernel_rfl) rfl rfl trivial (fun hHeld => ?_); refine with_tabW stratumlaw13_TableFits.tab5 stratumlaw13_TableFits.bits5 (fun HT_ HW_ => ?_)
    generalize w50.drew = w51 at HB hHeld ⊢
    refine pure_ (i := 0) (N := some 22) (v := ?_) (a' := ?_) ⟨mk_ 22 1⟩ rfl rfl (any_of HT_.out (by kernel_rfl)) (fun _ _ _ h => h) (Or.inl ⟨by rfl, ?_⟩) ?_ ?_
    rotate_left
    ·intro w'
     go_simp
     with_reducible rfl
    rotate_left
    ·simp only [Act.put, List.setIfInBounds_toArray, List.set_cons_zero, List.set_cons_succ, i64_w, i32_w]
     rfl
    refine pure_ (i := 1) (N := some 23) (v := ?_) (a' := ?_) ⟨mk_ 22 3⟩ rfl rfl (any_of HT_.out (by kernel_rfl)) (fun _ _ _ h => h) (Or.inl ⟨by rfl, ?_⟩) ?_ ?_
    rotate_left
    ·intro w'
     go_simp
     with_reducible rfl
    rotate_left
    ·simp only [Act.put, List.setIfInBounds_toArray, List.set_cons_zero, List.set_cons_succ, i64_w, i32_w]
     rfl
    refine pure_ (i := 2) (N := some 24) (v := ?_) (a' := ?_) ⟨mk_ 22 7⟩ rfl rfl (any_of HT_.out (by kernel_rfl)) (fun _ _ _ h => h) (Or.inl ⟨by rfl, ?_⟩) ?_ ?_
    rotate_left
    ·intro w'
     go_simp
     with_reducible rfl
    rotate_left
    ·simp only [Act.put, List.setIfInBounds_toArray, List.set_cons_zero, List.set_cons_succ, i64_w, i32_w]
     rfl
    refine pure_ (i := 3) (N := some 25) (v := undef) (a' := ?_) ⟨mk_ 22 15⟩ rfl rfl (any_of HT_.out (by kernel_rfl)) (fun _ _ _ h => h) (Or.inr ⟨by rfl, rfl⟩) ?_ ?_
    rotate_left
    ·simp only [Act.put, List.setIfInBounds_toArray, List.set_cons_zero, List.set_cons_succ, i64_w, i32_w]
     rfl
    refine pure_ (i := 4) (N := some 26) (v := undef) (a' := ?_) ⟨mk_ 22 31⟩ rfl rfl (any_of HT_.out (by kernel_rfl)) (fun _ _ _ h => h) (Or.inr ⟨by rfl, rfl⟩) ?_ ?_
    rotate_left
    ·simp only [Act.put, List.setIfInBounds_toArray, List.set_cons_zero, List.set_cons_succ, i64_w, i32_w]
     rfl
    refine pure_ (i := 5) (N := some 27) (v := undef) (a' := ?_) ⟨mk_ 22 63⟩ rfl rfl (any_of HT_.out (by kernel_rfl)) (fun _ _ _ h => h) (Or.inr ⟨by rfl, rfl⟩) ?_ ?_
    rotate_left
    ·simp only [Act.put, List.setIfInBounds_toArray, List.set_cons_zero, List.set_cons_succ, i64_w, i32_w]
     rfl
    refine pure_ (i := 6) (N := some 28) (v := undef) (a' := ?_) ⟨mk_ 22 127⟩ rfl rfl (any_of HT_.out (by kernel_rfl)) (fun _ _ _ h => h) (Or.inr ⟨by rfl, rfl⟩) ?_ ?_
    rotate_left
    ·simp only [Act.put, List.setIfInBounds_toArray, List.set_cons_zero, List.set_cons_succ, i64_w, i32_w]
     rfl
    refine pure_ (i := 7) (N := some 29) (v := undef) (a' := ?_) ⟨mk_ 22 255⟩ rfl rfl (any_of HT_.out (by kernel_rfl)) (fun _ _ _ h => h) (Or.inr ⟨by rfl, rfl⟩) ?_ ?_
    rotate_left
    ·simp only [Act.put, List.setIfInBounds_toArray, List.set_cons_zero, List.set_cons_succ, i64_w, i32_w]
     rfl
    refine pure_ (i := 8) (N := some 30) (v := undef) (a' := ?_) ⟨mk_ 22 511⟩ rfl rfl (any_of HT_.out (by kernel_rfl)) (fun _ _ _ h => h) (Or.inr ⟨by rfl, rfl⟩) ?_ ?_
    rotate_left
    ·simp only [Act.put, List.setIfInBounds_toArray, List.set_cons_zero, List.set_cons_succ, i64_w, i32_w]
     rfl
    refine pure_ (i := 9) (N := some 31) (v := undef) (a' := ?_) ⟨mk_ 22 1023⟩ rfl rfl (any_of HT_.out (by kernel_rfl)) (fun _ _ _ h => h) (Or.inr ⟨by rfl, rfl⟩) ?_ ?_
    rotate_left
    ·simp only [Act.put, List.setIfInBounds_toArray, List.set_cons_zero, List.set_cons_succ, i64_w, i32_w]
     rfl
    refine pure_ (i := 10) (N := some 32) (v := undef) (a' := ?_) ⟨mk_ 22 2047⟩ rfl rfl (any_of HT_.out (by kernel_rfl)) (fun _ _ _ h => h) (Or.inr ⟨by rfl, rfl⟩) ?_ ?_
    rotate_left
    ·simp only [Act.put, List.setIfInBounds_toArray, List.set_cons_zero, List.set_cons_succ, i64_w, i32_w]
     rfl
    refine pure_ (i := 11) (N := some 33) (v := undef) (a' := ?_) ⟨mk_ 22 4095⟩ rfl rfl (any_of HT_.out (by kernel_rfl)) (fun _ _ _ h => h) (Or.inr ⟨by rfl, rfl⟩) ?_ ?_
    rotate_left
    ·simp only [Act.put, List.setIfInBounds_toArray, List.set_cons_zero, List.set_cons_succ, i64_w, i32_w]
     rfl
    refine pure_ (i := 12) (N := some 34) (v := undef) (a' := ?_) ⟨mk_ 22 8191⟩ rfl rfl (any_of HT_.out (by kernel_rfl)) (fun _ _ _ h => h) (Or.inr ⟨by rfl, rfl⟩) ?_ ?_
    rotate_left
    ·simp only [Act.put, List.setIfInBounds_toArray, List.set_cons_zero, List.set_cons_succ, i64_w, i32_w]
     rfl
    refine pure_ (i := 13) (N := some 35) (v := undef) (a' := ?_) ⟨mk_ 22 16383⟩ rfl rfl (any_of HT_.out (by kernel_rfl)) (fun _ _ _ h => h) (Or.inr ⟨by rfl, rfl⟩) ?_ ?_
    rotate_left
    ·simp only [Act.put, List.setIfInBounds_toArray, List.set_cons_zero, List.set_cons_succ, i64_w, i32_w]
     rfl
    refine pure_ (i := 14) (N := some 36) (v := undef) (a' := ?_) ⟨mk_ 22 32767⟩ rfl rfl (any_of HT_.out (by kernel_rfl)) (fun _ _ _ h => h) (Or.inr ⟨by rfl, rfl⟩) ?_ ?_
    rotate_left
    ·simp only [Act.put, List.setIfInBounds_toArray, List.set_cons_zero, List.set_cons_succ, i64_w, i32_w]
     rfl
    refine pure_ (i := 15) (N := some 37) (v := undef) (a' := ?_) ⟨mk_ 22 65535⟩ rfl rfl (any_of HT_.out (by kernel_rfl)) (fun _ _ _ h => h) (Or.inr ⟨by rfl, rfl⟩) ?_ ?_
    rotate_left
    ·simp only [Act.put, List.setIfInBounds_toArray, List.set_cons_zero, List.set_cons_succ, i64_w, i32_w]
     rfl
    refine pure_ (i := 16) (N := some 38) (v := undef) (a' := ?_) ⟨mk_ 22 131071⟩ rfl rfl (any_of HT_.out (by kernel_rfl)) (fun _ _ _ h => h) (Or.inr ⟨by rfl, rfl⟩) ?_ ?_
    rotate_left
    ·simp only [Act.put, List.setIfInBounds_toArray, List.set_cons_zero, List.set_cons_succ, i64_w, i32_w]
     rfl
    refine pure_ (i := 17) (N := some 39) (v := undef) (a' := ?_) ⟨mk_ 22 262143⟩ rfl rfl (any_of HT_.out (by kernel_rfl)) (fun _ _ _ h => h) (Or.inr ⟨by rfl, rfl⟩) ?_ ?_
    rotate_left
    ·simp only [Act.put, List.setIfInBounds_toArray, List.set_cons_zero, List.set_cons_succ, i64_w, i32_w]
     rfl
    refine pure_ (i := 18) (N := some 40) (v := undef) (a' := ?_) ⟨mk_ 22 524287⟩ rfl rfl (any_of HT_.out (by kernel_rfl)) (fun _ _ _ h => h) (Or.inr ⟨by rfl, rfl⟩) ?_ ?_
    rotate_left
    ·simp only [Act.put, List.setIfInBounds_toArray, List.set_cons_zero, List.set_cons_succ, i64_w, i32_w]
     rfl
    refine pure_ (i := 19) (N := some 41) (v := undef) (a' := ?_) ⟨mk_ 22 1048575⟩ rfl rfl (any_of HT_.out (by kernel_rfl)) (fun _ _ _ h => h) (Or.inr ⟨by rfl, rfl⟩) ?_ ?_
    rotate_left
    ·simp only [Act.put, List.setIfInBounds_toArray, List.set_cons_zero, List.set_cons_succ, i64_w, i32_w]
     rfl
    refine pure_ (i := 20) (N := some 42) (v := ?_) (a' := ?_) ⟨mk_ 22 2097151⟩ rfl rfl (any_of HT_.out (by kernel_rfl)) (fun _ _ _ h => h) (Or.inl ⟨by rfl, ?_⟩) ?_ ?_
    rotate_left
    ·intro w'
     go_simp
     with_reducible rfl
    rotate_left
    ·simp only [Act.put, List.setIfInBounds_toArray, List.set_cons_zero, List.set_cons_succ, i64_w, i32_w]
     rfl
    refine pure_ (i := 21) (N := some 6) (v := ?_) (a' := ?_) ⟨mk_ 22 4194303⟩ rfl rfl (any_of HT_.out (by kernel_rfl)) (fun _ _ _ h => h) (Or.inl ⟨by rfl, ?_⟩) ?_ ?_
    rotate_left
    ·intro w'
     go_simp
     with_reducible rfl
    rotate_left
    ·simp only [Act.put, List.setIfInBounds_toArray, List.set_cons_zero, List.set_cons_succ, i64_w, i32_w]
     rfl
    refine done_ (done_of HT_.out (by kernel_rfl)) ?_
    try go_wp2
    go_ret
    exact ⟨by first | rfl | (simp [errW_none, errW_some] <;> rfl) | (simp [*, errW_none, errW_some] <;> rfl), by repeat (first | (with_reducible first | exact HB.out | apply below_alloc | apply pw_below_drewN | apply below_drew1) | exact HB.out)⟩
   ·rw [if_neg c48] at H
    have c48b0 : (t883 == 130) = false := beq_eq_false_iff_ne.mpr c48
    have c48b1 : (t883 != 130) = true := bne_iff_ne.mpr c48
    by_cases c52 : t883 = 2
    ·rw [if_pos c52] at H
     have c52b0 : (t883 == 2) = true := beq_iff_eq.mpr c52
     have c52b1 : (t883 != 2) = false := bne_eq_false_iff_eq.mpr c52
     clear c52
     by_cases c53 : 0 ≤ (l0.length : Int)
     ·rw [if_pos c53] at H
      have c53b0 := eq_true c53
      have c53b1 : decide (0 ≤ (l0.length : Int)) = true := decide_eq_true c53
      clear c53
      obtain ⟨y884, hy884⟩ : ∃ y_ : List (S35), y_ = (l0.take 0) := ⟨_, rfl⟩
      replace H : (if 0 ≤ (l1.length : Int) then ((table_Typed.f k y884 (l1.take 0)).bind fun t892 => (if t892 = 0 then (some ((l0.length : Int) == (l1.length : Int))) else (some false))) else (none)) = some r := by first | (rw [hy884]; with_reducible exact H) | (have H2_ := (Option.bind_some _ _).symm.trans H; rw [hy884]; with_reducible exact H2_) | (have H2_ := (Option.bind_some _ _).symm.trans H; with_reducible exact H2_) | with_reducible exact H | (rw [hy884]; exact H) | exact H
      have Ny884 := Aside0.mk hy884
      clear hy884
      by_cases c54 : 0 ≤ (l1.length : Int)
      ·rw [if_pos c54] at H
       have c54b0 := eq_true c54
       have c54b1 : decide (0 ≤ (l1.length : Int)) = true := decide_eq_true c54
       clear c54
       obtain ⟨y888, hy888⟩ : ∃ y_ : List (S53), y_ = (l1.take 0) := ⟨_, rfl⟩
       replace H : ((table_Typed.f k y884 y888).bind fun t892 => (if t892 = 0 then (some ((l0.length : Int) == (l1.length : Int))) else (some false))) = some r := by first | (rw [hy888]; with_reducible exact H) | (have H2_ := (Option.bind_some _ _).symm.trans H; rw [hy888]; with_reducible exact H2_) | (have H2_ := (Option.bind_some _ _).symm.trans H; with_reducible exact H2_) | with_reducible exact H | (rw [hy888]; exact H) | exact H
       have Ny888 := Aside0.mk hy888
       clear hy888
       replace H := Option.bind_eq_some_iff.mp H
       obtain ⟨t892, A550, H⟩ := H
       replace H : (if t892 = 0 then (some ((l0.length : Int) == (l1.length : Int))) else (some false)) = some r := H
       have A55 := Aside0.mk A550
       clear A550
       by_cases c56 : t892 = 0
       ·rw [if_pos c56] at H
        have c56b0 : (t892 == 0) = true := beq_iff_eq.mpr c56
        have c56b1 : (t892 != 0) = false := bne_eq_false_iff_eq.mpr c56
        clear c56
        obtain rfl := Option.some.inj H
        go_enter Try.func17, Try.ntmps17
        try go_wp2_with (first | ((with_reducible refine gate_callee (f := 18) rfl ?_); refine goesL_ (some 15) rfl rfl Try.func18 (by kernel_rfl) rfl #[] rfl (by (try simp only [List.map_toArray, List.map_cons, List.map_nil]); first | done | rfl | (simp only [List.length_drop, List.length_take]; rfl)) ?_; (with_reducible refine (stratumlaw13_awake.calls k  true _ A4.out).mono ?_); rintro e w57 ⟨rfl, hb⟩; refine ⟨_, rfl, ?_⟩; have n0_ := Aside0.mk (below_step (by repeat (first | (with_reducible first | exact HB.out | apply below_alloc | apply pw_below_drewN | apply below_drew1) | exact HB.out)) hb); clear HB; have HB := n0_; clear n0_; (try clear hb); (try clear hb2); (try clear hk); (try clear hi)) | ((with_reducible refine gate_callee (f := 26) rfl ?_); refine goesL_ (some 19) rfl rfl Try.func26 (by kernel_rfl) rfl #[.slice A0 l0.length c0, .slice A1 l1.length c1] rfl (by (try simp only [List.map_toArray, List.map_cons, List.map_nil]); first | done | rfl | (simp only [List.length_drop, List.length_take]; rfl)) ?_; (with_reducible refine (table_Typed.calls k _ _ l0 _ _ l1 t883 _ ?side1 ?side2 ?side3 ?side4 A6.out).mono ?_); (case side1 => repeat (first | exact (Kd.C_below HR0.out HB.out) | (with_reducible refine Kd.C_alloc ?_ _) | (with_reducible refine Kd.C_drewN ?_ _) | (with_reducible refine Kd.C_drew ?_))); (case side2 => exact HC0.out); (case side3 => repeat (first | exact (Kd.C_below HR1.out HB.out) | (with_reducible refine Kd.C_alloc ?_ _) | (with_reducible refine Kd.C_drewN ?_ _) | (with_reducible refine Kd.C_drew ?_))); (case side4 => exact HC1.out); rintro e w58 ⟨rfl, hb⟩; refine ⟨_, rfl, ?_⟩; have n0_ := Aside0.mk (below_step (by repeat (first | (with_reducible first | exact HB.out | apply below_alloc | apply pw_below_drewN | apply below_drew1) | exact HB.out)) hb); clear HB; have HB := n0_; clear n0_; (try clear hb); (try clear hb2); (try clear hk); (try clear hi)))
        have n0_ := Aside0.mk (below_drew1 HB.out)
        clear HB
        have HB := n0_
        clear n0_
        have q60 : (0 : Int) ≤ ((l0.length : Int) : Int) := of_decide_eq_true (by first | (with_reducible assumption) | assumption)
        obtain ⟨i060, hi060, _, hsz60, _⟩ := info_parts info35
        have hroom60 : l0.length ≤ c0 := HC0.out
        have hC60 : Kd.C k35 _ A0 l0.length l0 := HR0.out
        have hcut60 := cut_to (P := Try.prog) 29 35 .i64 Try.underlying29 hi060 A0 l0.length c0 0 (by omega) q60 hroom60
        have hr60 := Kd.C_take (m := 0) hC60 (by omega)
        have hy60 : y884.length = (0 : Int).toNat := (by rw [Ny884.out, List.length_take]; omega)
        rw [← Ny884.out] at hr60
        rw [← hy60] at hcut60
        have HR887 := Aside0.mk hr60
        have HC887 := Aside0.mk (show y884.length ≤ c0 from by omega)
        clear hr60 hC60 hroom60 hi060 hsz60
        have KY60 := Aside0.mk hy60
        clear hy60
        replace q60 := eq_true q60
        have q61 : (0 : Int) ≤ ((l1.length : Int) : Int) := of_decide_eq_true (by first | (with_reducible assumption) | assumption)
        obtain ⟨i061, hi061, _, hsz61, _⟩ := info_parts info53
        have hroom61 : l1.length ≤ c1 := HC1.out
        have hC61 : Kd.C k53 _ A1 l1.length l1 := HR1.out
        have hcut61 := cut_to (P := Try.prog) 39 53 .i64 Try.underlying39 hi061 A1 l1.length c1 0 (by omega) q61 hroom61
        have hr61 := Kd.C_take (m := 0) hC61 (by omega)
        have hy61 : y888.length = (0 : Int).toNat := (by rw [Ny888.out, List.length_take]; omega)
        rw [← Ny888.out] at hr61
        rw [← hy61] at hcut61
        have HR891 := Aside0.mk hr61
        have HC891 := Aside0.mk (show y888.length ≤ c1 from by omega)
        clear hr61 hC61 hroom61 hi061 hsz61
        have KY61 := Aside0.mk hy61
        clear hy61
        replace q61 := eq_true q61
        refine start_ (n := 22) (S := fun w' => True) (ds := []) ⟨mk_ 22 0⟩ (by kernel_rfl) rfl rfl trivial (fun hHeld => ?_); refine with_tabW stratumlaw13_TableFits.tab5 stratumlaw13_TableFits.bits5 (fun HT_ HW_ => ?_)
        generalize w58.drew = w59 at HB HR887 HR891 hHeld ⊢
        refine pure_ (i := 0) (N := some 22) (v := ?_) (a' := ?_) ⟨mk_ 22 1⟩ rfl rfl (any_of HT_.out (by kernel_rfl)) (fun _ _ _ h => h) (Or.inl ⟨by rfl, ?_⟩) ?_ ?_
        rotate_left
        ·intro w'
         go_simp
         with_reducible rfl
        rotate_left
        ·simp only [Act.put, List.setIfInBounds_toArray, List.set_cons_zero, List.set_cons_succ, i64_w, i32_w]
         rfl
        refine pure_ (i := 1) (N := some 23) (v := ?_) (a' := ?_) ⟨mk_ 22 3⟩ rfl rfl (any_of HT_.out (by kernel_rfl)) (fun _ _ _ h => h) (Or.inl ⟨by rfl, ?_⟩) ?_ ?_
        rotate_left
        ·intro w'
         go_simp
         with_reducible rfl
        rotate_left
        ·simp only [Act.put, List.setIfInBounds_toArray, List.set_cons_zero, List.set_cons_succ, i64_w, i32_w]
         rfl
        refine pure_ (i := 2) (N := some 24) (v := ?_) (a' := ?_) ⟨mk_ 22 7⟩ rfl rfl (any_of HT_.out (by kernel_rfl)) (fun _ _ _ h => h) (Or.inl ⟨by rfl, ?_⟩) ?_ ?_
        rotate_left
        ·intro w'
         go_simp
         with_reducible rfl
        rotate_left
        ·simp only [Act.put, List.setIfInBounds_toArray, List.set_cons_zero, List.set_cons_succ, i64_w, i32_w]
         rfl
        refine pure_ (i := 3) (N := some 25) (v := ?_) (a' := ?_) ⟨mk_ 22 15⟩ rfl rfl (any_of HT_.out (by kernel_rfl)) (fun _ _ _ h => h) (Or.inl ⟨by rfl, ?_⟩) ?_ ?_
        rotate_left
        ·intro w'
         go_simp
         with_reducible rfl
        rotate_left
        ·simp only [Act.put, List.setIfInBounds_toArray, List.set_cons_zero, List.set_cons_succ, i64_w, i32_w]
         rfl
        refine pure_ (i := 4) (N := some 26) (v := ?_) (a' := ?_) ⟨mk_ 22 31⟩ rfl rfl (any_of HT_.out (by kernel_rfl)) (fun _ _ _ h => h) (Or.inl ⟨by rfl, ?_⟩) ?_ ?_
        rotate_left
        ·intro w'
         go_simp
         with_reducible rfl
        rotate_left
        ·simp only [Act.put, List.setIfInBounds_toArray, List.set_cons_zero, List.set_cons_succ, i64_w, i32_w]
         rfl
        refine pure_ (i := 5) (N := some 27) (v := ?_) (a' := ?_) ⟨mk_ 22 63⟩ rfl rfl (any_of HT_.out (by kernel_rfl)) (fun _ _ _ h => h) (Or.inl ⟨by rfl, ?_⟩) ?_ ?_
        rotate_left
        ·intro w'
         go_simp
         with_reducible rfl
        rotate_left
        ·simp only [Act.put, List.setIfInBounds_toArray, List.set_cons_zero, List.set_cons_succ, i64_w, i32_w]
         rfl
        refine pure_ (i := 6) (N := some 28) (v := ?_) (a' := ?_) ⟨mk_ 22 127⟩ rfl rfl (any_of HT_.out (by kernel_rfl)) (fun _ _ _ h => h) (Or.inl ⟨by rfl, ?_⟩) ?_ ?_
        rotate_left
        ·intro w'
         go_simp
         with_reducible rfl
        rotate_left
        ·simp only [Act.put, List.setIfInBounds_toArray, List.set_cons_zero, List.set_cons_succ, i64_w, i32_w]
         rfl
        refine pure_ (i := 7) (N := some 29) (v := ?_) (a' := ?_) ⟨mk_ 22 255⟩ rfl rfl (any_of HT_.out (by kernel_rfl)) (fun _ _ _ h => h) (Or.inl ⟨by rfl, ?_⟩) ?_ ?_
        rotate_left
        ·intro w'
         go_simp
         with_reducible rfl
        rotate_left
        ·simp only [Act.put, List.setIfInBounds_toArray, List.set_cons_zero, List.set_cons_succ, i64_w, i32_w]
         rfl
        refine pure_ (i := 8) (N := some 30) (v := ?_) (a' := ?_) ⟨mk_ 22 511⟩ rfl rfl (any_of HT_.out (by kernel_rfl)) (fun _ _ _ h => h) (Or.inl ⟨by rfl, ?_⟩) ?_ ?_
        rotate_left
        ·intro w'
         go_simp
         with_reducible rfl
        rotate_left
        ·simp only [Act.put, List.setIfInBounds_toArray, List.set_cons_zero, List.set_cons_succ, i64_w, i32_w]
         rfl
        refine pure_ (i := 9) (N := some 31) (v := ?_) (a' := ?_) ⟨mk_ 22 1023⟩ rfl rfl (any_of HT_.out (by kernel_rfl)) (fun _ _ _ h => h) (Or.inl ⟨by rfl, ?_⟩) ?_ ?_
        rotate_left
        ·intro w'
         go_simp
         with_reducible rfl
        rotate_left
        ·simp only [Act.put, List.setIfInBounds_toArray, List.set_cons_zero, List.set_cons_succ, i64_w, i32_w]
         rfl
        refine one_ (i := 10) (N := some 32) ⟨mk_ 22 2047⟩ rfl rfl (one_of HT_.out (by kernel_rfl)) (by decide) (fun K hK => ?_)
        refine goes_ Try.func26 (by kernel_rfl) rfl #[.slice A0 y884.length c0, .slice A1 y888.length c1] (by rfl) rfl rfl (by (try simp only [List.map_toArray, List.map_cons, List.map_nil]); first | done | rfl | (simp only [List.length_drop, List.length_take]; rfl)) ?_
        with_reducible refine (table_Typed.calls k _ _ y884 _ _ y888 t892 _ ?side1 ?side2 ?side3 ?side4 A55.out).mono ?_
        (case side1 => repeat (first | exact (Kd.C_below HR887.out HB.out) | (with_reducible refine Kd.C_alloc ?_ _) | (with_reducible refine Kd.C_drewN ?_ _) | (with_reducible refine Kd.C_drew ?_)))
        (case side2 => exact HC887.out)
        (case side3 => repeat (first | exact (Kd.C_below HR891.out HB.out) | (with_reducible refine Kd.C_alloc ?_ _) | (with_reducible refine Kd.C_drewN ?_ _) | (with_reducible refine Kd.C_drew ?_)))
        (case side4 => exact HC891.out)
        rintro e w62 ⟨rfl, hb⟩
        refine ⟨_, rfl, ?_⟩
        have n0_ := Aside0.mk (below_step (by repeat (first | (with_reducible first | exact HB.out | apply below_alloc | apply pw_below_drewN | apply below_drew1) | exact HB.out)) hb)
        clear HB
        have HB := n0_
        clear n0_
        (try clear hb)
        (try clear hb2)
        (try clear hk)
        (try clear hi)
        refine hK.out _ _ trivial (fun hHeld => ?_)
        clear hK K
        refine norm_ (a' := ?_) ?_ ?_
        rotate_left
        ·show Act.put _ (some 32) _ = _
         simp only [Act.put, List.setIfInBounds_toArray, List.set_cons_zero, List.set_cons_succ, i64_w, i32_w]
         rfl
        refine pure_ (i := 11) (N := some 33) (v := ?_) (a' := ?_) ⟨mk_ 22 4095⟩ rfl rfl (any_of HT_.out (by kernel_rfl)) (fun _ _ _ h => h) (Or.inl ⟨by rfl, ?_⟩) ?_ ?_
        rotate_left
        ·intro w'
         go_simp
         with_reducible rfl
        rotate_left
        ·simp only [Act.put, List.setIfInBounds_toArray, List.set_cons_zero, List.set_cons_succ, i64_w, i32_w]
         rfl
        refine pure_ (i := 12) (N := some 34) (v := ?_) (a' := ?_) ⟨mk_ 22 8191⟩ rfl rfl (any_of HT_.out (by kernel_rfl)) (fun _ _ _ h => h) (Or.inl ⟨by rfl, ?_⟩) ?_ ?_
        rotate_left
        ·intro w'
         go_simp
         with_reducible rfl
        rotate_left
        ·simp only [Act.put, List.setIfInBounds_toArray, List.set_cons_zero, List.set_cons_succ, i64_w, i32_w]
         rfl
        refine pure_ (i := 13) (N := some 35) (v := ?_) (a' := ?_) ⟨mk_ 22 16383⟩ rfl rfl (any_of HT_.out (by kernel_rfl)) (fun _ _ _ h => h) (Or.inl ⟨by rfl, ?_⟩) ?_ ?_
        rotate_left
        ·intro w'
         go_simp
         with_reducible rfl
        rotate_left
        ·simp only [Act.put, List.setIfInBounds_toArray, List.set_cons_zero, List.set_cons_succ, i64_w, i32_w]
         rfl
        refine pure_ (i := 14) (N := some 36) (v := ?_) (a' := ?_) ⟨mk_ 22 32767⟩ rfl rfl (any_of HT_.out (by kernel_rfl)) (fun _ _ _ h => h) (Or.inl ⟨by rfl, ?_⟩) ?_ ?_
        rotate_left
        ·intro w'
         go_simp
         with_reducible rfl
        rotate_left
        ·simp only [Act.put, List.setIfInBounds_toArray, List.set_cons_zero, List.set_cons_succ, i64_w, i32_w]
         rfl
        refine pure_ (i := 15) (N := some 37) (v := ?_) (a' := ?_) ⟨mk_ 22 65535⟩ rfl rfl (any_of HT_.out (by kernel_rfl)) (fun _ _ _ h => h) (Or.inl ⟨by rfl, ?_⟩) ?_ ?_
        rotate_left
        ·intro w'
         go_simp
         with_reducible rfl
        rotate_left
        ·simp only [Act.put, List.setIfInBounds_toArray, List.set_cons_zero, List.set_cons_succ, i64_w, i32_w]
         rfl
        refine pure_ (i := 16) (N := some 38) (v := ?_) (a' := ?_) ⟨mk_ 22 131071⟩ rfl rfl (any_of HT_.out (by kernel_rfl)) (fun _ _ _ h => h) (Or.inl ⟨by rfl, ?_⟩) ?_ ?_
        rotate_left
        ·intro w'
         go_simp
         with_reducible rfl
        rotate_left
        ·simp only [Act.put, List.setIfInBounds_toArray, List.set_cons_zero, List.set_cons_succ, i64_w, i32_w]
         rfl
        refine pure_ (i := 17) (N := some 39) (v := ?_) (a' := ?_) ⟨mk_ 22 262143⟩ rfl rfl (any_of HT_.out (by kernel_rfl)) (fun _ _ _ h => h) (Or.inl ⟨by rfl, ?_⟩) ?_ ?_
        rotate_left
        ·intro w'
         go_simp
         with_reducible rfl
        rotate_left
        ·simp only [Act.put, List.setIfInBounds_toArray, List.set_cons_zero, List.set_cons_succ, i64_w, i32_w]
         rfl
        refine pure_ (i := 18) (N := some 40) (v := ?_) (a' := ?_) ⟨mk_ 22 524287⟩ rfl rfl (any_of HT_.out (by kernel_rfl)) (fun _ _ _ h => h) (Or.inl ⟨by rfl, ?_⟩) ?_ ?_
        rotate_left
        ·intro w'
         go_simp
         with_reducible rfl
        rotate_left
        ·simp only [Act.put, List.setIfInBounds_toArray, List.set_cons_zero, List.set_cons_succ, i64_w, i32_w]
         rfl
        refine pure_ (i := 19) (N := some 41) (v := ?_) (a' := ?_) ⟨mk_ 22 1048575⟩ rfl rfl (any_of HT_.out (by kernel_rfl)) (fun _ _ _ h => h) (Or.inl ⟨by rfl, ?_⟩) ?_ ?_
        rotate_left
        ·intro w'
         go_simp
         with_reducible rfl
        rotate_left
        ·simp only [Act.put, List.setIfInBounds_toArray, List.set_cons_zero, List.set_cons_succ, i64_w, i32_w]
         rfl
        refine pure_ (i := 20) (N := some 42) (v := ?_) (a' := ?_) ⟨mk_ 22 2097151⟩ rfl rfl (any_of HT_.out (by kernel_rfl)) (fun _ _ _ h => h) (Or.inl ⟨by rfl, ?_⟩) ?_ ?_
        rotate_left
        ·intro w'
         go_simp
         with_reducible rfl
        rotate_left
        ·simp only [Act.put, List.setIfInBounds_toArray, List.set_cons_zero, List.set_cons_succ, i64_w, i32_w]
         rfl
        refine pure_ (i := 21) (N := some 6) (v := ?_) (a' := ?_) ⟨mk_ 22 4194303⟩ rfl rfl (any_of HT_.out (by kernel_rfl)) (fun _ _ _ h => h) (Or.inl ⟨by rfl, ?_⟩) ?_ ?_
        rotate_left
        ·intro w'
         go_simp
         with_reducible rfl
        rotate_left
        ·simp only [Act.put, List.setIfInBounds_toArray, List.set_cons_zero, List.set_cons_succ, i64_w, i32_w]
         rfl
        refine done_ (done_of HT_.out (by kernel_rfl)) ?_
        try go_wp2
        go_ret
        exact ⟨by first | rfl | (simp [errW_none, errW_some] <;> rfl) | (simp [*, errW_none, errW_some] <;> rfl), by repeat (first | (with_reducible first | exact HB.out | apply below_alloc | apply pw_below_drewN | apply below_drew1) | exact HB.out)⟩
       ·rw [if_neg c56] at H
        have c56b0 : (t892 == 0) = false := beq_eq_false_iff_ne.mpr c56
        have c56b1 : (t892 != 0) = true := bne_iff_ne.mpr c56
        exact absurd ((Option.some.inj H).trans hr_.out) (by simp)
      ·rw [if_neg c54] at H
       exact absurd H (by simp)
     ·rw [if_neg c53] at H
      exact absurd H (by simp)
    ·rw [if_neg c52] at H
     have c52b0 : (t883 == 2) = false := beq_eq_false_iff_ne.mpr c52
     have c52b1 : (t883 != 2) = true := bne_iff_ne.mpr c52
     exact absurd ((Option.some.inj H).trans hr_.out) (by simp)
 ·replace c5 := Bool.eq_false_iff.mpr c5
  subst c5
  have H1 : (some false) = some r := by rw [if_neg (show ¬ (false = true) by decide)] at H; exact H
  clear H
  have H := H1
  clear H1
  exact absurd ((Option.some.inj H).trans hr_.out) (by simp)
end Go.Proofs.Yteejpfemaedmkaa.X
