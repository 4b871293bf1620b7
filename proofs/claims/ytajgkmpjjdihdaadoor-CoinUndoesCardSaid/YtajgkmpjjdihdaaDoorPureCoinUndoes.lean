/- The pure statement of CoinUndoes. -/
import Derived.Test.YtajgkmpjjdihdaaDoorAwake01
import Derived.Test.YtajgkmpjjdihdaaDoorOpen
import Derived.Test.YtajgkmpjjdihdaaDoorRefMul
import Derived.Test.YtajgkmpjjdihdaaDoorPx5
namespace Go.Proofs.YtajgkmpjjdihdaaDoor.Pure
open Go.RowKit Go.Proofs.YtajgkmpjjdihdaaDoor.E Go.Proofs.YtajgkmpjjdihdaaDoor.P Go.Proofs.YtajgkmpjjdihdaaDoorW.PrintWords Go.Proofs.YtajgkmpjjdihdaaDoorW.PrintLast
theorem CoinUndoes (a : Int) (g0 : (Lit.int .i64 a).wf = true) (b : Int) (g1 : (Lit.int .i64 b).wf = true) : ∃ k, cambistlaw01_CoinUndoes.f k a b = some true := by
  have ha := i64_range g0
  have hb := i64_range g1
  refine Ev.rounds (g := fun k => cambistlaw01_CoinUndoes.f k a b) ?_
  simp only [cambistlaw01_CoinUndoes.f]
  have e2 : coin_Add.f b a = some (outOf (a + b)) := by rw [Int.add_comm]; exact add_some hb ha
  have e3 : Ev (fun k => coin_Mul.f k b a) (outOf (a * b)) := by rw [Int.mul_comm]; exact mul_some hb ha
  refine ev_call awake_ev (ev_opt (add_some ha hb) (ev_opt e2 (ev_opt (sub_some ha hb) (ev_call (mul_some ha hb) (ev_call e3 (ev_pos rfl (ev_pos rfl (ev_pos rfl ?_))))))))
  rw [bne_self_eq_false]
  have fin : Ev (fun _ : Nat => if (outOf (a * b)).2 = 0 then (if b = 0 then (some true) else (if b = (-1) then (some true) else (some ((wrap64 (Int.tdiv (outOf (a * b)).1 b)) == a)))) else (some true)) true := by
    by_cases h : in64 (a * b)
    · rw [outOf_in h]
      refine ev_pos rfl ?_
      by_cases h0 : b = 0
      · exact ev_pos h0 (ev_some rfl)
      · refine ev_neg h0 ?_
        by_cases h1 : b = -1
        · exact ev_pos h1 (ev_some rfl)
        · refine ev_neg h1 (ev_some ?_)
          rw [Int.mul_tdiv_cancel _ h0, wrap64_in ha]
          exact beq_self_eq_true _
    · rw [outOf_over h]
      exact ev_neg (by decide) (ev_some rfl)
  have last : Ev (fun k => cambistlaw01_CoinUndoes.j1 k a b true (outOf (a - b)).1 (outOf (a - b)).2 (outOf (a * b)).1 (outOf (a * b)).2) true := by
    refine ev_succ ?_
    simp only [cambistlaw01_CoinUndoes.j1]
    by_cases h : in64 (a - b)
    · rw [outOf_in h]
      have e : coin_Add.f (a - b) b = some (a, 0) := by
        rw [add_some h hb, show a - b + b = a by omega, outOf_in ha]
      exact ev_pos rfl (ev_opt e (ev_pos rfl (ev_pos rfl (ev_pos trivial fin))))
    · rw [outOf_over h]
      exact ev_neg (by decide) (ev_pos trivial fin)
  refine ev_succ ?_
  simp only [cambistlaw01_CoinUndoes.j0]
  refine ev_neg (by decide) ?_
  by_cases h : in64 (a + b)
  · rw [outOf_in h]
    have e : coin_Sub.f (a + b) b = some (a, 0) := by
      rw [sub_some h hb, show a + b - b = a by omega, outOf_in ha]
    exact ev_pos rfl (ev_opt e (ev_pos rfl (ev_pos rfl last)))
  · rw [outOf_over h]
    exact ev_neg (by decide) last
end Go.Proofs.YtajgkmpjjdihdaaDoor.Pure
