import Derived.Test.YtepkmbbeaaljlaaX5
import Derived.Test.YtepkmbbeaaljlaaPlainOrd
namespace Go.Proofs.Ytepkmbbeaaljlaa.Plain
open Go.RowKit Go.Proofs.Ytepkmbbeaaljlaa.X Go.Proofs.YtepkmbbeaaljlaaW.PrintWords Go.Proofs.YtepkmbbeaaljlaaW.PrintLast
theorem awake_20 : stratumlaw04_awake.f 20 = some true := by kernel_rfl
theorem awake_is (k : Nat) (hk : 20 ≤ k) : stratumlaw04_awake.f k = some true := at_rounds (fun k => stratumlaw04_awake.mono k) hk awake_20
end Go.Proofs.Ytepkmbbeaaljlaa.Plain
