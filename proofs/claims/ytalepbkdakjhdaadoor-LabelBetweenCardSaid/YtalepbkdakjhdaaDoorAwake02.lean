/- What stands at the head of all statements of layer 2 answers true. -/
import Derived.Test.YtalepbkdakjhdaaDoorPx2
namespace Go.Proofs.YtalepbkdakjhdaaDoor.Pure
open Go.RowKit Go.Proofs.YtalepbkdakjhdaaDoor.P Go.Proofs.YtalepbkdakjhdaaDoorW.PrintWords Go.Proofs.YtalepbkdakjhdaaDoorW.PrintLast
set_option maxRecDepth 100000 in
theorem awake_true : cambistlaw02_awake.f 20 = some true := by decide +kernel
theorem awake_ev : Ev (fun k => cambistlaw02_awake.f k) true := Ev.of (fun k => cambistlaw02_awake.mono k) awake_true
end Go.Proofs.YtalepbkdakjhdaaDoor.Pure
