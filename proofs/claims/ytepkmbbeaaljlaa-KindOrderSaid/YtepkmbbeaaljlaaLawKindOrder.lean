/- KindOrder: for every input the law returns true, and its arguments read behind the call as they read before. No condition. -/
import Derived.Test.YtepkmbbeaaljlaaRows
import Derived.Test.YtepkmbbeaaljlaaX9
import Derived.Test.YtepkmbbeaaljlaaXOpen
import Derived.Test.YtepkmbbeaaljlaaPureKindOrder
import Derived.WalkKit
import Derived.ProofKit
import Derived.OpenShut
import Derived.ShutString
import Derived.ChangeOld
import Derived.Below
import Derived.SizedLaws
import Derived.Carry
namespace Go.Proofs.Ytepkmbbeaaljlaa.kindOrder
open Go.ChangeShapes Go.WideShapes Go.ChangeAt Go.RowKit
open Go.Proofs.Ytepkmbbeaaljlaa.X Go.Proofs.YtepkmbbeaaljlaaW.PrintWords
open Go.ChangeMaps (open_string shut_string)
set_option linter.unusedVariables false
theorem own : ownKnob Try.prog.godebug = none := by kernel_rfl
theorem laidOut : laidOutB Try.prog = true := by kernel_rfl
set_option maxRecDepth 100000 in
theorem lifted (os : Os) (started : os.Started) (H : Type) (enc : TypeId × Value → H) :
    ReturnsInHanded {} Try.checked os 4 .any (Rows.kindOrderSpec.pre6 enc Try.prog Try.f4 Rows.kindOrderRow.domain false) (Rows.kindOrderSpec.post enc Try.prog Try.f4 false true false false) := by
  refine returnsInHanded_of_change_sized (C := Try.checked) own started (by kernel_rfl) Try.func4
    (ChangeSpec.witness6 (enc := enc) (C := Try.checked) false ⟨#[], #[.agg #[.int .i64 0, .int .u64 0, .string ByteArray.empty], .agg #[.int .i64 0, .int .u64 0, .string ByteArray.empty], .agg #[.int .i64 0, .int .u64 0, .string ByteArray.empty]], []⟩ 8 (by kernel_rfl) (by kernel_rfl) (by kernel_rfl) (by kernel_rfl)) ?_
  intro W base args ds gs before hval0 hW hcnd hsz0 _
  have hsz : (DataW.weightsEach Try.prog (Try.f4.params.toList ++ Rows.kindOrderSpec.plain.varTypes Try.prog) (ds ++ gs)).all (· ≤ reachBytes) = true := hsz0
  have hval : ∀ (j : Nat) t v, Try.f4.params[j]? = some t → args[j]? = some v → Value.okWide Try.prog W .any base t v := hval0
  have hW' := hW
  obtain ⟨p, q, hA0, hV, rfl, hfz, hnd⟩ := hW
  have hA : DataW.TrodAll enc Try.prog W 0 (fun _ => true) true Try.f4.params.toList args.toList ds p := hA0
  rw [Try.params4] at hA hval hsz
  obtain ⟨v0, vs0, d0, ds0, p0, q0, hargs, rfl, rfl, h0, r0⟩ := trodAll_cons hA
  obtain ⟨v1, vs1, d1, ds1, p1, q1, rfl, rfl, rfl, h1, r1⟩ := trodAll_cons r0
  obtain ⟨v2, vs2, d2, ds2, p2, q2, rfl, rfl, rfl, h2, r2⟩ := trodAll_cons r1
  obtain ⟨rfl, rfl, rfl⟩ := trodAll_nil r2
  obtain rfl : args = #[v0, v1, v2] := by cases args; simp_all
  obtain ⟨rfl, rfl⟩ := trodVars_none hV
  have hz : ∀ (j : Nat) (t : TypeId) d, _ → _ → ∀ n ∈ DataW.weights Try.prog t d, n ≤ reachBytes := fun j t d (ht : (_ : List TypeId)[j]? = some t) (hd : (_ : List (DataW H))[j]? = some d) n hn => by simpa using List.all_eq_true.1 hsz n (DataW.weights_mem_each ht hd n hn)
  have k0 := h0
  have lt0 : ∀ x ∈ p0, x.block < W.heap.size := by obtain ⟨m, hm⟩ := k0; exact DataW.trod_lt m _ _ _ hm
  obtain ⟨x0, K0, w0⟩ := Opens.arg o27 h0 (hz 0 27 _ rfl rfl)
  obtain ⟨cs0, rfl, _⟩ := okWide_struct Try.underlying27 (hval 0 27 v0 rfl rfl)
  have e0 := k27_open K0
  obtain rfl : cs0 = #[.int .i64 x0.f0, .int .u64 x0.f1, .string x0.f2] := by have e : cs0.toList = [.int .i64 x0.f0, .int .u64 x0.f1, .string x0.f2] := e0; cases cs0; simpa using e
  have k1 := h1
  have lt1 : ∀ x ∈ p1, x.block < W.heap.size := by obtain ⟨m, hm⟩ := k1; exact DataW.trod_lt m _ _ _ hm
  obtain ⟨x1, K1, w1⟩ := Opens.arg o27 h1 (hz 1 27 _ rfl rfl)
  obtain ⟨cs1, rfl, _⟩ := okWide_struct Try.underlying27 (hval 1 27 v1 rfl rfl)
  have e1 := k27_open K1
  obtain rfl : cs1 = #[.int .i64 x1.f0, .int .u64 x1.f1, .string x1.f2] := by have e : cs1.toList = [.int .i64 x1.f0, .int .u64 x1.f1, .string x1.f2] := e1; cases cs1; simpa using e
  have k2 := h2
  have lt2 : ∀ x ∈ p2, x.block < W.heap.size := by obtain ⟨m, hm⟩ := k2; exact DataW.trod_lt m _ _ _ hm
  obtain ⟨x2, K2, w2⟩ := Opens.arg o27 h2 (hz 2 27 _ rfl rfl)
  obtain ⟨cs2, rfl, _⟩ := okWide_struct Try.underlying27 (hval 2 27 v2 rfl rfl)
  have e2 := k27_open K2
  obtain rfl : cs2 = #[.int .i64 x2.f0, .int .u64 x2.f1, .string x2.f2] := by have e : cs2.toList = [.int .i64 x2.f0, .int .u64 x2.f1, .string x2.f2] := e2; cases cs2; simpa using e
  clear hval hval0 hsz0 hsz hz
  have hp := Pure.KindOrder x0 x1 x2 w0 w1 w2
  obtain ⟨k, hp⟩ := hp
  refine (stratumlaw04_KindOrder.calls k x0.f0 x0.f1 x0.f2 x1.f0 x1.f1 x1.f2 x2.f0 x2.f1 x2.f2 true W  hp).mono fun e W' ⟨he, bel0⟩ => ?_
  have bel : Below W.heap.size W W' := bel0
  subst he
  exact ⟨_, rfl, _, _, _, [], _, [], hW', trodAll_mk1 (shut_bool Try.underlying4 _), (trodAll_cons_mk (Below.trod laidOut (by kernel_rfl) (of_decide_eq_true (by kernel_rfl)) k0 bel lt0) (trodAll_cons_mk (Below.trod laidOut (by kernel_rfl) (of_decide_eq_true (by kernel_rfl)) k1 bel lt1) (trodAll_cons_mk (Below.trod laidOut (by kernel_rfl) (of_decide_eq_true (by kernel_rfl)) k2 bel lt2) trodAll_mk0))), rfl, bel.frame _, fun h => by cases h⟩
theorem over : Rows.kindOrderRow.holds Try.pinned (OpenSpec.ofChange Rows.kindOrderSpec) :=
  OpenClaim.holds_of_wide 4 Try.f4 rfl rfl rfl rfl rfl rfl rfl ⟨rfl, rfl, rfl, rfl, rfl⟩ rfl rfl rfl rfl rfl (by kernel_rfl) Try.func4 (by kernel_rfl)
    (of_decide_eq_true (by kernel_rfl)) (by unfold Func.isWrapper; first | (rw [if_pos (by decide +kernel)]; kernel_rfl) | (rw [if_neg (by decide +kernel)]; exact ⟨rfl, rfl⟩))
    (fun os started H enc _ => lifted os started H enc)
theorem proved : Rows.KindOrderSaid := over
#print axioms proved
end Go.Proofs.Ytepkmbbeaaljlaa.kindOrder
namespace Go.Proofs.Ytepkmbbeaaljlaa
/-- The row, under a short name, for the claim. -/
theorem kindOrder_holds : Rows.KindOrderSaid := kindOrder.proved
end Go.Proofs.Ytepkmbbeaaljlaa
