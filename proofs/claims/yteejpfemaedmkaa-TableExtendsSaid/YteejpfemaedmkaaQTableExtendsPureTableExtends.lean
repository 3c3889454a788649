/- TableExtends: Extends is the document's, either way round. -/
import Derived.Test.YteejpfemaedmkaaQTableExtendsSTableExtends
import Derived.Test.YteejpfemaedmkaaQTableExtendsPlainExtends
import Derived.Test.YteejpfemaedmkaaQTableExtendsPlainAwake13
namespace Go.Proofs.Yteejpfemaedmkaa.Pure
open Go.RowKit Go.Proofs.Yteejpfemaedmkaa.X Go.Proofs.YteejpfemaedmkaaW.PrintWords Go.Proofs.YteejpfemaedmkaaW.PrintLast Go.Proofs.Yteejpfemaedmkaa.Plain
theorem TableExtends : stratumlaw13_TableExtends.PureX := by
  rintro ⟨a⟩ ⟨b⟩ ha hb
  have sa : smallT a := smallT_of ha
  have sb : smallT b := smallT_of hb
  refine ⟨140737488351232 + need a + need b + 101, ?_⟩
  simp only [stratumlaw13_TableExtends.f]
  rw [awake13 _ (by omega), Option.bind_some, if_pos rfl, extends_is _ a b sa (by omega), Option.bind_some, ref_extends_is _ a b sa (by omega), Option.bind_some, if_pos (by simp),
    extends_is _ b a sb (by omega), Option.bind_some, ref_extends_is _ b a sb (by omega), Option.bind_some, if_pos (by simp), extends_is _ a a sa (by omega), Option.bind_some, if_pos (extH_refl a),
    extends_is _ [] a ⟨by simp, fun t ht => absurd ht (by simp)⟩ (by simp only [need]; omega), Option.bind_some, extH_nil]
end Go.Proofs.Yteejpfemaedmkaa.Pure
