/- The pure statement of CoinBack. -/
import Derived.Test.YtajgkmpjjdihdaaDoorAwake01
import Derived.Test.YtajgkmpjjdihdaaDoorOpen
import Derived.Test.YtajgkmpjjdihdaaDoorRefParse
import Derived.Test.YtajgkmpjjdihdaaDoorPx5
namespace Go.Proofs.YtajgkmpjjdihdaaDoor.Pure
open Go.RowKit Go.Proofs.YtajgkmpjjdihdaaDoor.E Go.Proofs.YtajgkmpjjdihdaaDoor.P Go.Proofs.YtajgkmpjjdihdaaDoorW.PrintWords Go.Proofs.YtajgkmpjjdihdaaDoorW.PrintLast
theorem text_size {a : Int} (h : in64 a) : (⟨(intText a).toArray⟩ : ByteArray).size ≤ 20 := by
  have hd := (digits_facts h).2.2.2
  have e : (⟨(intText a).toArray⟩ : ByteArray).size = (intText a).length := by
    show (intText a).toArray.size = _
    simp
  rw [e]
  unfold intText
  split
  · simp only [List.length_cons]
    omega
  · rename_i hn
    rw [show a.toNat = a.natAbs by omega]
    omega
theorem CoinBack (a0 : Int) (g0 : (Lit.int .i64 a0).wf = true) (s : ByteArray) (g1 : s.size ≤ lim) : ∃ k, cambistlaw01_CoinBack.f k a0 s = some true := by
  have ha := i64_range g0
  have hz := text_size ha
  refine Ev.rounds (g := fun k => cambistlaw01_CoinBack.f k a0 s) ?_
  simp only [cambistlaw01_CoinBack.f]
  refine ev_call awake_ev ?_
  by_cases h : (s.size : Int) > 50
  · exact ev_pos h (ev_some rfl)
  · have hb : coin_Parse.f ⟨(intText a0).toArray⟩ = some (a0, 0) := by
      rw [parse_some _ (by omega)]
      congr 1
      exact parseOf_text ha
    refine ev_neg h (ev_opt (text_some ha) (ev_opt hb (ev_opt (parse_some s g1) (ev_pos rfl (ev_pos rfl (ev_pos rfl ?_))))))
    rcases parseOf_cases s.data.toList with ⟨v, hv, ht, hp⟩ | ⟨hno, hp⟩
    · rw [hp]
      refine ev_pos rfl (ev_opt (text_some hv) (ev_pos (text_is.2 ht) (ev_opt (text_some ha) (ev_some (decide_eq_true (by omega))))))
    · rw [hp]
      exact ev_neg (by decide) (ev_pos rfl (ev_pos rfl (ev_opt (text_some ha) (ev_some (decide_eq_true (by omega))))))
end Go.Proofs.YtajgkmpjjdihdaaDoor.Pure
