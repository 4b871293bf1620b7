/- The pure statement of CoinParts. -/
import Derived.Test.YtajgkmpjjdihdaaDoorAwake01
import Derived.Test.YtajgkmpjjdihdaaDoorOpen
import Derived.Test.YtajgkmpjjdihdaaDoorRefSum
import Derived.Test.YtajgkmpjjdihdaaDoorPx6
namespace Go.Proofs.YtajgkmpjjdihdaaDoor.Pure
open Go.RowKit Go.Proofs.YtajgkmpjjdihdaaDoor.E Go.Proofs.YtajgkmpjjdihdaaDoor.P Go.Proofs.YtajgkmpjjdihdaaDoorW.PrintWords Go.Proofs.YtajgkmpjjdihdaaDoorW.PrintLast
theorem out_in (x : Int) : in64 (outOf x).1 := by
  unfold outOf
  split
  · assumption
  · unfold in64; omega
theorem CoinParts (l : List Int) (g0 : (∀ p ∈ l, (Lit.int .i64 p).wf = true) ∧ l.length * Tryd.prog.bytesOf 2 ≤ lim) (m : List Int) (g1 : (∀ p ∈ m, (Lit.int .i64 p).wf = true) ∧ m.length * Tryd.prog.bytesOf 2 ≤ lim) : ∃ k, cambistlaw01_CoinParts.f k l m = some true := by
  have hl : ∀ x ∈ l, in64 x := fun x hx => i64_range (g0.1 x hx)
  have hm : ∀ x ∈ m, in64 x := fun x hx => i64_range (g1.1 x hx)
  refine Ev.rounds (g := fun k => cambistlaw01_CoinParts.f k l m) ?_
  simp only [cambistlaw01_CoinParts.f]
  refine ev_call awake_ev ?_
  have skip : Ev (fun k => cambistlaw01_CoinParts.j0 k l m true true) true := by
    refine ev_succ ?_
    simp only [cambistlaw01_CoinParts.j0]
    exact ev_pos trivial (ev_some rfl)
  by_cases h : (l.length : Int) > 50
  · exact ev_pos h skip
  · refine ev_neg h ?_
    by_cases h' : (m.length : Int) > 50
    · rw [decide_eq_true h']
      exact skip
    · rw [decide_eq_false h']
      have s3 : coin_Sum.f ([] ++ l ++ m) = some (outOf (sumI l + sumI m)) := by
        rw [List.nil_append, sum_some _ (fun x hx => by
          rcases List.mem_append.1 hx with hx | hx
          · exact hl x hx
          · exact hm x hx) (by rw [List.length_append]; omega), sumI_app]
      refine ev_succ ?_
      simp only [cambistlaw01_CoinParts.j0]
      refine ev_neg (by decide) (ev_opt (sum_some l hl (by omega)) (ev_opt (sum_some m hm (by omega)) (ev_opt rfl (ev_pos (by simp only [List.length_nil]; omega) (ev_opt rfl (ev_pos (by simp only [List.nil_append]; omega) (ev_opt s3 (ev_opt (add_some (out_in (sumI l)) (out_in (sumI m))) ?_))))))))
      by_cases i1 : in64 (sumI l)
      · by_cases i2 : in64 (sumI m)
        · rw [outOf_in i1, outOf_in i2]
          exact ev_pos rfl (ev_pos rfl (ev_pos trivial (ev_pos rfl (ev_some (beq_self_eq_true _)))))
        · rw [outOf_in i1, outOf_over i2]
          exact ev_pos rfl (ev_neg (by decide) (ev_some rfl))
      · rw [outOf_over i1]
        exact ev_neg (by decide) (ev_some rfl)
end Go.Proofs.YtajgkmpjjdihdaaDoor.Pure
