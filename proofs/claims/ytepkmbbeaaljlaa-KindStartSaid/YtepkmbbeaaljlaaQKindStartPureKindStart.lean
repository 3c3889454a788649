/- KindStart: the entries are the document's, the numbers those of the entries; what Entries answers is new memory. -/
import Derived.Test.YtepkmbbeaaljlaaQKindStartSKindStart
namespace Go.Proofs.Ytepkmbbeaaljlaa.Pure
open Go.RowKit Go.Proofs.Ytepkmbbeaaljlaa.X Go.Proofs.YtepkmbbeaaljlaaW.PrintWords Go.Proofs.YtepkmbbeaaljlaaW.PrintLast
theorem start_60 (a b : Int) (s : ByteArray) (c : Int) : stratumlaw04_KindStart.f 60 a b s c = some true := by kernel_rfl
theorem KindStart : stratumlaw04_KindStart.PureX := fun x _ => ⟨60, start_60 _ _ _ _⟩
end Go.Proofs.Ytepkmbbeaaljlaa.Pure
