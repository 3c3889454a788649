/- TableExtends: for every input the law returns true, and its arguments read behind the call as they read before. No condition. -/
import Derived.Test.YteejpfemaedmkaaRows
import Derived.Test.YteejpfemaedmkaaQTableExtendsX20
import Derived.Test.YteejpfemaedmkaaQTableExtendsXOpen
import Derived.Test.YteejpfemaedmkaaQTableExtendsPureTableExtends
import Derived.WalkKit
import Derived.ProofKit
import Derived.OpenShut
import Derived.ShutString
import Derived.ChangeOld
import Derived.Below
import Derived.SizedLaws
import Derived.Carry
namespace Go.Proofs.Yteejpfemaedmkaa.tableExtends
open Go.ChangeShapes Go.WideShapes Go.ChangeAt Go.RowKit
open Go.Proofs.Yteejpfemaedmkaa.X Go.Proofs.YteejpfemaedmkaaW.PrintWords
open Go.ChangeMaps (open_string shut_string)
set_option linter.unusedVariables false
theorem own : ownKnob Try.prog.godebug = none := by kernel_rfl
theorem laidOut : laidOutB Try.prog = true := by kernel_rfl
set_option maxRecDepth 100000 in
theorem lifted (os : Os) (started : os.Started) (H : Type) (enc : TypeId × Value → H) :
    ReturnsInHanded {} Try.checked os 5 .any (Rows.tableExtendsSpec.pre6 enc Try.prog Try.f5 Rows.tableExtendsRow.domain false) (Rows.tableExtendsSpec.post enc Try.prog Try.f5 false true false false) := by
  refine returnsInHanded_of_change_sized (C := Try.checked) own started (by kernel_rfl) Try.func5
    (ChangeSpec.witness6 (enc := enc) (C := Try.checked) false ⟨#[], #[.agg #[.slice none 0 0], .agg #[.slice none 0 0]], []⟩ 8 (by kernel_rfl) (by kernel_rfl) (by kernel_rfl) (by kernel_rfl)) ?_
  intro W base args ds gs before hval0 hW hcnd hsz0 _
  have hsz : (DataW.weightsEach Try.prog (Try.f5.params.toList ++ Rows.tableExtendsSpec.plain.varTypes Try.prog) (ds ++ gs)).all (· ≤ reachBytes) = true := hsz0
  have hval : ∀ (j : Nat) t v, Try.f5.params[j]? = some t → args[j]? = some v → Value.okWide Try.prog W .any base t v := hval0
  have hW' := hW
  obtain ⟨p, q, hA0, hV, rfl, hfz, hnd⟩ := hW
  have hA : DataW.TrodAll enc Try.prog W 0 (fun _ => true) true Try.f5.params.toList args.toList ds p := hA0
  rw [Try.params5] at hA hval hsz
  obtain ⟨v0, vs0, d0, ds0, p0, q0, hargs, rfl, rfl, h0, r0⟩ := trodAll_cons hA
  obtain ⟨v1, vs1, d1, ds1, p1, q1, rfl, rfl, rfl, h1, r1⟩ := trodAll_cons r0
  obtain ⟨rfl, rfl, rfl⟩ := trodAll_nil r1
  obtain rfl : args = #[v0, v1] := by cases args; simp_all
  obtain ⟨rfl, rfl⟩ := trodVars_none hV
  have hz : ∀ (j : Nat) (t : TypeId) d, _ → _ → ∀ n ∈ DataW.weights Try.prog t d, n ≤ reachBytes := fun j t d (ht : (_ : List TypeId)[j]? = some t) (hd : (_ : List (DataW H))[j]? = some d) n hn => by simpa using List.all_eq_true.1 hsz n (DataW.weights_mem_each ht hd n hn)
  have k0 := h0
  have lt0 : ∀ x ∈ p0, x.block < W.heap.size := by obtain ⟨m, hm⟩ := k0; exact DataW.trod_lt m _ _ _ hm
  obtain ⟨x0, K0, w0⟩ := Opens.arg o24 h0 (hz 0 24 _ rfl rfl)
  obtain ⟨cs0, rfl, _⟩ := okWide_struct Try.underlying24 (hval 0 24 v0 rfl rfl)
  obtain ⟨A0_0, c0_0, e0, hc0_0, hr0_0⟩ := k24_open K0
  obtain rfl : cs0 = #[.slice A0_0 x0.f0.length c0_0] := by have e : cs0.toList = [.slice A0_0 x0.f0.length c0_0] := e0; cases cs0; simpa using e
  have k1 := h1
  have lt1 : ∀ x ∈ p1, x.block < W.heap.size := by obtain ⟨m, hm⟩ := k1; exact DataW.trod_lt m _ _ _ hm
  obtain ⟨x1, K1, w1⟩ := Opens.arg o24 h1 (hz 1 24 _ rfl rfl)
  obtain ⟨cs1, rfl, _⟩ := okWide_struct Try.underlying24 (hval 1 24 v1 rfl rfl)
  obtain ⟨A1_0, c1_0, e1, hc1_0, hr1_0⟩ := k24_open K1
  obtain rfl : cs1 = #[.slice A1_0 x1.f0.length c1_0] := by have e : cs1.toList = [.slice A1_0 x1.f0.length c1_0] := e1; cases cs1; simpa using e
  clear hval hval0 hsz0 hsz hz
  have hp := Pure.TableExtends x0 x1 w0 w1
  obtain ⟨k, hp⟩ := hp
  refine (stratumlaw13_TableExtends.calls k _ _ x0.f0 _ _ x1.f0 true W hr0_0 hc0_0 hr1_0 hc1_0 hp ⟨rfl⟩).mono fun e W' ⟨he, bel0⟩ => ?_
  have bel : Below W.heap.size W W' := bel0
  subst he
  exact ⟨_, rfl, _, _, _, [], _, [], hW', trodAll_mk1 (shut_bool Try.underlying4 _), (trodAll_cons_mk (Below.trod laidOut (by kernel_rfl) (of_decide_eq_true (by kernel_rfl)) k0 bel lt0) (trodAll_cons_mk (Below.trod laidOut (by kernel_rfl) (of_decide_eq_true (by kernel_rfl)) k1 bel lt1) trodAll_mk0)), rfl, bel.frame _, fun h => by cases h⟩
theorem over : Rows.tableExtendsRow.holds Try.pinned (OpenSpec.ofChange Rows.tableExtendsSpec) :=
  OpenClaim.holds_of_wide 5 Try.f5 rfl rfl rfl rfl rfl rfl rfl ⟨rfl, rfl, rfl, rfl, rfl⟩ rfl rfl rfl rfl rfl (by kernel_rfl) Try.func5 (by kernel_rfl)
    (of_decide_eq_true (by kernel_rfl)) (by unfold Func.isWrapper; first | (rw [if_pos (by decide +kernel)]; kernel_rfl) | (rw [if_neg (by decide +kernel)]; exact ⟨rfl, rfl⟩))
    (fun os started H enc _ => lifted os started H enc)
theorem proved : Rows.TableExtendsSaid := over
#print axioms proved
end Go.Proofs.Yteejpfemaedmkaa.tableExtends
namespace Go.Proofs.Yteejpfemaedmkaa
/-- The row, under a short name, for the claim. -/
theorem tableExtends_holds : Rows.TableExtendsSaid := tableExtends.proved
end Go.Proofs.Yteejpfemaedmkaa
