/- KindStart: for every input the law returns true, and its arguments read behind the call as they read before. No condition. -/
import Derived.Test.YtepkmbbeaaljlaaRows
import Derived.Test.YtepkmbbeaaljlaaQKindStartX14
import Derived.Test.YtepkmbbeaaljlaaQKindStartXOpen
import Derived.Test.YtepkmbbeaaljlaaQKindStartPureKindStart
import Derived.WalkKit
import Derived.ProofKit
import Derived.OpenShut
import Derived.ShutString
import Derived.ChangeOld
import Derived.Below
import Derived.SizedLaws
import Derived.Carry
namespace Go.Proofs.Ytepkmbbeaaljlaa.kindStart
open Go.ChangeShapes Go.WideShapes Go.ChangeAt Go.RowKit
open Go.Proofs.Ytepkmbbeaaljlaa.X Go.Proofs.YtepkmbbeaaljlaaW.PrintWords
open Go.ChangeMaps (open_string shut_string)
set_option linter.unusedVariables false
theorem own : ownKnob Try.prog.godebug = none := by kernel_rfl
theorem laidOut : laidOutB Try.prog = true := by kernel_rfl
set_option maxRecDepth 100000 in
theorem lifted (os : Os) (started : os.Started) (H : Type) (enc : TypeId × Value → H) :
    ReturnsInHanded {} Try.checked os 8 .any (Rows.kindStartSpec.pre6 enc Try.prog Try.f8 Rows.kindStartRow.domain false) (Rows.kindStartSpec.post enc Try.prog Try.f8 false true false false) := by
  refine returnsInHanded_of_change_sized (C := Try.checked) own started (by kernel_rfl) Try.func8
    (ChangeSpec.witness6 (enc := enc) (C := Try.checked) false ⟨#[], #[.agg #[.int .i64 0, .int .i64 0, .string ByteArray.empty, .int .i64 0]], []⟩ 8 (by kernel_rfl) (by kernel_rfl) (by kernel_rfl) (by kernel_rfl)) ?_
  intro W base args ds gs before hval0 hW hcnd hsz0 _
  have hsz : (DataW.weightsEach Try.prog (Try.f8.params.toList ++ Rows.kindStartSpec.plain.varTypes Try.prog) (ds ++ gs)).all (· ≤ reachBytes) = true := hsz0
  have hval : ∀ (j : Nat) t v, Try.f8.params[j]? = some t → args[j]? = some v → Value.okWide Try.prog W .any base t v := hval0
  have hW' := hW
  obtain ⟨p, q, hA0, hV, rfl, hfz, hnd⟩ := hW
  have hA : DataW.TrodAll enc Try.prog W 0 (fun _ => true) true Try.f8.params.toList args.toList ds p := hA0
  rw [Try.params8] at hA hval hsz
  obtain ⟨v0, vs0, d0, ds0, p0, q0, hargs, rfl, rfl, h0, r0⟩ := trodAll_cons hA
  obtain ⟨rfl, rfl, rfl⟩ := trodAll_nil r0
  obtain rfl : args = #[v0] := by cases args; simp_all
  obtain ⟨rfl, rfl⟩ := trodVars_none hV
  have hz : ∀ (j : Nat) (t : TypeId) d, _ → _ → ∀ n ∈ DataW.weights Try.prog t d, n ≤ reachBytes := fun j t d (ht : (_ : List TypeId)[j]? = some t) (hd : (_ : List (DataW H))[j]? = some d) n hn => by simpa using List.all_eq_true.1 hsz n (DataW.weights_mem_each ht hd n hn)
  have k0 := h0
  have lt0 : ∀ x ∈ p0, x.block < W.heap.size := by obtain ⟨m, hm⟩ := k0; exact DataW.trod_lt m _ _ _ hm
  obtain ⟨x0, K0, w0⟩ := Opens.arg o41 h0 (hz 0 41 _ rfl rfl)
  obtain ⟨cs0, rfl, _⟩ := okWide_struct Try.underlying41 (hval 0 41 v0 rfl rfl)
  have e0 := k41_open K0
  obtain rfl : cs0 = #[.int .i64 x0.f0, .int .i64 x0.f1, .string x0.f2, .int .i64 x0.f3] := by have e : cs0.toList = [.int .i64 x0.f0, .int .i64 x0.f1, .string x0.f2, .int .i64 x0.f3] := e0; cases cs0; simpa using e
  clear hval hval0 hsz0 hsz hz
  have hp := Pure.KindStart x0 w0
  obtain ⟨k, hp⟩ := hp
  refine (stratumlaw04_KindStart.calls k x0.f0 x0.f1 x0.f2 x0.f3 true W  hp ⟨rfl⟩).mono fun e W' ⟨he, bel0⟩ => ?_
  have bel : Below W.heap.size W W' := bel0
  subst he
  exact ⟨_, rfl, _, _, _, [], _, [], hW', trodAll_mk1 (shut_bool Try.underlying4 _), (trodAll_cons_mk (Below.trod laidOut (by kernel_rfl) (of_decide_eq_true (by kernel_rfl)) k0 bel lt0) trodAll_mk0), rfl, bel.frame _, fun h => by cases h⟩
theorem over : Rows.kindStartRow.holds Try.pinned (OpenSpec.ofChange Rows.kindStartSpec) :=
  OpenClaim.holds_of_wide 8 Try.f8 rfl rfl rfl rfl rfl rfl rfl ⟨rfl, rfl, rfl, rfl, rfl⟩ rfl rfl rfl rfl rfl (by kernel_rfl) Try.func8 (by kernel_rfl)
    (of_decide_eq_true (by kernel_rfl)) (by unfold Func.isWrapper; first | (rw [if_pos (by decide +kernel)]; kernel_rfl) | (rw [if_neg (by decide +kernel)]; exact ⟨rfl, rfl⟩))
    (fun os started H enc _ => lifted os started H enc)
theorem proved : Rows.KindStartSaid := over
#print axioms proved
end Go.Proofs.Ytepkmbbeaaljlaa.kindStart
namespace Go.Proofs.Ytepkmbbeaaljlaa
/-- The row, under a short name, for the claim. -/
theorem kindStart_holds : Rows.KindStartSaid := kindStart.proved
end Go.Proofs.Ytepkmbbeaaljlaa
