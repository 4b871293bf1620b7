/- The pure statement of CoinTexts. -/
import Derived.Test.YtajgkmpjjdihdaaDoorAwake01
import Derived.Test.YtajgkmpjjdihdaaDoorOpen
import Derived.Test.YtajgkmpjjdihdaaDoorRefParse
import Derived.Test.YtajgkmpjjdihdaaDoorPx4
namespace Go.Proofs.YtajgkmpjjdihdaaDoor.Pure
open Go.RowKit Go.Proofs.YtajgkmpjjdihdaaDoor.E Go.Proofs.YtajgkmpjjdihdaaDoor.P Go.Proofs.YtajgkmpjjdihdaaDoorW.PrintWords Go.Proofs.YtajgkmpjjdihdaaDoorW.PrintLast
theorem CoinTexts (a0 : Int) (g0 : (Lit.int .i64 a0).wf = true) (s : ByteArray) (g1 : s.size ≤ lim) : ∃ k, cambistlaw01_CoinTexts.f k a0 s = some true := by
  have ha := i64_range g0
  refine Ev.rounds (g := fun k => cambistlaw01_CoinTexts.f k a0 s) ?_
  simp only [cambistlaw01_CoinTexts.f]
  refine ev_call awake_ev ?_
  by_cases h : (s.size : Int) > 50
  · exact ev_pos h (ev_some rfl)
  · exact ev_neg h (ev_opt (parse_some s g1) (ev_call (ref_parse s) (ev_pos rfl (ev_opt (text_some ha) (ev_call (ref_text ha) (ev_pos rfl (ev_pos rfl (ev_some (beq_self_eq_true _)))))))))
end Go.Proofs.YtajgkmpjjdihdaaDoor.Pure
