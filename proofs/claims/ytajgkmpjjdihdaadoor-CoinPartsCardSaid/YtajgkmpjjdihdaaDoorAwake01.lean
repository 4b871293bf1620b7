/- What stands at the head of all statements of layer 1 answers true. -/
import Derived.Test.YtajgkmpjjdihdaaDoorPx1
namespace Go.Proofs.YtajgkmpjjdihdaaDoor.Pure
open Go.RowKit Go.Proofs.YtajgkmpjjdihdaaDoor.P Go.Proofs.YtajgkmpjjdihdaaDoorW.PrintWords Go.Proofs.YtajgkmpjjdihdaaDoorW.PrintLast
set_option maxRecDepth 100000 in
theorem awake_true : cambistlaw01_awake.f 20 = some true := by decide +kernel
theorem awake_ev : Ev (fun k => cambistlaw01_awake.f k) true := Ev.of (fun k => cambistlaw01_awake.mono k) awake_true
end Go.Proofs.YtajgkmpjjdihdaaDoor.Pure
