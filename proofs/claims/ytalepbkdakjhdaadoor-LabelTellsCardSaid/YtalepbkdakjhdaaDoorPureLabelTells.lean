/- The pure statement of LabelTells: names, digits and numbers are what the document says. -/
import Derived.Test.YtalepbkdakjhdaaDoorAwake02
import Derived.Test.YtalepbkdakjhdaaDoorRefNames
import Derived.Test.YtalepbkdakjhdaaDoorRefHex
import Derived.Test.YtalepbkdakjhdaaDoorOpen
import Derived.Test.YtalepbkdakjhdaaDoorPx4
namespace Go.Proofs.YtalepbkdakjhdaaDoor.Pure
open Go.RowKit Go.Proofs.YtalepbkdakjhdaaDoor.E Go.Proofs.YtalepbkdakjhdaaDoor.P Go.Proofs.YtalepbkdakjhdaaDoorW.PrintWords Go.Proofs.YtalepbkdakjhdaaDoorW.PrintLast
theorem end_some (s : ByteArray) (hs : s.size ≤ 140737488351232) : label_End.f s = some (s ++ ⟨#[125]⟩) := by
  unfold label_End.f
  rw [if_pos (by omega)]
theorem ref_end (s : ByteArray) (hs : s.size ≤ 140737488351232) : cambistref02_End.f s = some (s ++ ⟨#[125]⟩) := by
  unfold cambistref02_End.f
  rw [if_pos (by omega)]
theorem LabelTells (s : ByteArray) (g0 : s.size ≤ lim) (a1 : Int) (g1 : (Lit.int .u64 a1).wf = true) : ∃ k, cambistlaw02_LabelTells.f k s a1 = some true := by
  have hs : s.size ≤ 140737488351232 := g0
  obtain ⟨n, rfl, hn⟩ := u64_range g1
  refine Ev.rounds (g := fun k => cambistlaw02_LabelTells.f k s (n : Int)) ?_
  simp only [cambistlaw02_LabelTells.f]
  refine ev_call awake_ev ?_
  by_cases h100 : (s.size : Int) > 100
  · exact ev_pos h100 (ev_some rfl)
  · refine ev_neg h100 (ev_opt (number_some s) (ev_call (ref_number s) (ev_opt (who_some s hs) (ev_call (ref_who s hs) (ev_pos (beq_self_eq_true _) (ev_opt (asset_some s hs) (ev_call (ref_asset s hs) (ev_pos (beq_self_eq_true _) (ev_opt (word_some s hs) (ev_call (ref_word s hs) (ev_succ ?_)))))))))))
    simp only [cambistlaw02_LabelTells.j0]
    refine ev_pos trivial (ev_pos (beq_self_eq_true _) (ev_opt (digits_some n hn) (ev_call (ref_digits n hn) (ev_pos (by trivial) (ev_pos (by trivial) (ev_pos (by trivial) (ev_opt (end_some s hs) (ev_opt (ref_end s hs) (ev_some (beq_self_eq_true _))))))))))
end Go.Proofs.YtalepbkdakjhdaaDoor.Pure
