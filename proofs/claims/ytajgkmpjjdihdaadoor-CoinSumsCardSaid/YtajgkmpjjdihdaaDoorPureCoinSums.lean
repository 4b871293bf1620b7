/- The pure statement of CoinSums. -/
import Derived.Test.YtajgkmpjjdihdaaDoorAwake01
import Derived.Test.YtajgkmpjjdihdaaDoorOpen
import Derived.Test.YtajgkmpjjdihdaaDoorRefSum
import Derived.Test.YtajgkmpjjdihdaaDoorPx3
namespace Go.Proofs.YtajgkmpjjdihdaaDoor.Pure
open Go.RowKit Go.Proofs.YtajgkmpjjdihdaaDoor.E Go.Proofs.YtajgkmpjjdihdaaDoor.P Go.Proofs.YtajgkmpjjdihdaaDoorW.PrintWords Go.Proofs.YtajgkmpjjdihdaaDoorW.PrintLast
theorem CoinSums (l : List Int) (g0 : (∀ p ∈ l, (Lit.int .i64 p).wf = true) ∧ l.length * Tryd.prog.bytesOf 2 ≤ lim) : ∃ k, cambistlaw01_CoinSums.f k l = some true := by
  have hl : ∀ x ∈ l, in64 x := fun x hx => i64_range (g0.1 x hx)
  refine Ev.rounds (g := fun k => cambistlaw01_CoinSums.f k l) ?_
  simp only [cambistlaw01_CoinSums.f]
  refine ev_call awake_ev ?_
  by_cases h : (l.length : Int) > 100
  · exact ev_pos h (ev_some rfl)
  · exact ev_neg h (ev_opt (sum_some l hl (by omega)) (ev_call (ref_sum l hl (by omega)) (ev_pos rfl (ev_pos rfl (ev_some (beq_self_eq_true _))))))
end Go.Proofs.YtajgkmpjjdihdaaDoor.Pure
