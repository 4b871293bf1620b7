/- The pure statement of CoinNames. -/
import Derived.Test.YtajgkmpjjdihdaaDoorAwake01
import Derived.Test.YtajgkmpjjdihdaaDoorOpen
import Derived.Test.YtajgkmpjjdihdaaDoorEv
import Derived.Test.YtajgkmpjjdihdaaDoorPx1
namespace Go.Proofs.YtajgkmpjjdihdaaDoor.Pure
open Go.RowKit Go.Proofs.YtajgkmpjjdihdaaDoor.E Go.Proofs.YtajgkmpjjdihdaaDoor.P Go.Proofs.YtajgkmpjjdihdaaDoorW.PrintWords Go.Proofs.YtajgkmpjjdihdaaDoorW.PrintLast
theorem CoinNames : ∃ k, cambistlaw01_CoinNames.f k = some true := by
  refine Ev.rounds (g := fun k => cambistlaw01_CoinNames.f k) ?_
  simp only [cambistlaw01_CoinNames.f]
  exact ev_call awake_ev (ev_pos rfl (ev_some rfl))
end Go.Proofs.YtajgkmpjjdihdaaDoor.Pure
