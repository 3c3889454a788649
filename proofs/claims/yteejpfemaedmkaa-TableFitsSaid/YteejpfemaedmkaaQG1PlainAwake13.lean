import Derived.Test.YteejpfemaedmkaaQG1X11
namespace Go.Proofs.Yteejpfemaedmkaa.Plain
open Go.RowKit Go.Proofs.Yteejpfemaedmkaa.X Go.Proofs.YteejpfemaedmkaaW.PrintWords Go.Proofs.YteejpfemaedmkaaW.PrintLast
theorem awake13_100 : stratumlaw13_awake.f 100 = some true := by kernel_rfl
theorem awake13 (k : Nat) (hk : 100 ≤ k) : stratumlaw13_awake.f k = some true := at_rounds (fun k => stratumlaw13_awake.mono k) hk awake13_100
end Go.Proofs.Yteejpfemaedmkaa.Plain
