/- The pure statement of CoinTells. -/
import Derived.Test.YtajgkmpjjdihdaaDoorAwake01
import Derived.Test.YtajgkmpjjdihdaaDoorOpen
import Derived.Test.YtajgkmpjjdihdaaDoorRefMul
import Derived.Test.YtajgkmpjjdihdaaDoorPx2
namespace Go.Proofs.YtajgkmpjjdihdaaDoor.Pure
open Go.RowKit Go.Proofs.YtajgkmpjjdihdaaDoor.E Go.Proofs.YtajgkmpjjdihdaaDoor.P Go.Proofs.YtajgkmpjjdihdaaDoorW.PrintWords Go.Proofs.YtajgkmpjjdihdaaDoorW.PrintLast
theorem CoinTells (a0 : Int) (g0 : (Lit.int .i64 a0).wf = true) (a1 : Int) (g1 : (Lit.int .i64 a1).wf = true) : ∃ k, cambistlaw01_CoinTells.f k a0 a1 = some true := by
  have ha := i64_range g0
  have hb := i64_range g1
  refine Ev.rounds (g := fun k => cambistlaw01_CoinTells.f k a0 a1) ?_
  simp only [cambistlaw01_CoinTells.f]
  exact ev_call awake_ev (ev_opt (add_some ha hb) (ev_opt (ref_add ha hb) (ev_opt (sub_some ha hb) (ev_opt (ref_sub ha hb) (ev_call (mul_some ha hb) (ev_call (ref_mul ha hb) (ev_pos rfl (ev_pos rfl (ev_pos rfl (ev_pos rfl (ev_pos rfl (ev_pos rfl (ev_some (beq_self_eq_true _))))))))))))))
end Go.Proofs.YtajgkmpjjdihdaaDoor.Pure
