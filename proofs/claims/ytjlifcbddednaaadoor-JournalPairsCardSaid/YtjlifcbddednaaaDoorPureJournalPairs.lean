/- The law JournalPairs answers true. -/
import Derived.Test.YtjlifcbddednaaaDoorPairs12
import Derived.Test.YtjlifcbddednaaaDoorOpenJ
import Derived.Test.YtjlifcbddednaaaDoorPx12
namespace Go.Proofs.YtjlifcbddednaaaDoor.Pure
open Go.RowKit Go.Proofs.YtjlifcbddednaaaDoor.P Go.Proofs.YtjlifcbddednaaaDoor.E Go.Proofs.YtjlifcbddednaaaDoorW.PrintWords Go.Proofs.YtjlifcbddednaaaDoorW.PrintLast
theorem good_64 {l : List Leg_} (h : ∀ a ∈ l, goodLeg a) : ints64 l := fun g hg => by
  have := (h g hg).2.2
  simp [Lit.wf] at this
  exact this
theorem JournalPairs (n d : Int) (rq : ByteArray) (l : List Leg_) (hg : goodEnt ⟨n, d, rq, l⟩) : ∃ k, cambistlaw12_JournalPairs.f k n d rq l = some true := by
  obtain ⟨hn, hd, _, hl, _⟩ := hg
  obtain ⟨N, rfl, hN⟩ := u64_range hn
  obtain ⟨D, rfl, hD⟩ := u64_range hd
  have h64 := good_64 hl
  refine Ev.rounds (g := fun k => cambistlaw12_JournalPairs.f k (N : Int) (D : Int) rq l) ?_
  unfold cambistlaw12_JournalPairs.f
  refine ev_opt (show cambistlaw12_awake.f = some true from rfl) (ev_call (few_ev N D rq l) ?_)
  cases hf : fewB rq l with
  | false => exact ev_neg (by decide) (ev_some rfl)
  | true =>
    obtain ⟨f1, f2, f3⟩ := few_get hf
    have hs : ∀ g ∈ l, g.f0.size ≤ 1000 ∧ g.f1.size ≤ 1000 := fun g hg => ⟨Nat.le_trans (f3 g hg).1 (by decide), Nat.le_trans (f3 g hg).2 (by decide)⟩
    have hs2 : ∀ g ∈ l, g.f0.size ≤ 140737488351232 ∧ g.f1.size ≤ 140737488351232 := fun g hg => ⟨Nat.le_trans (f3 g hg).1 (by decide), Nat.le_trans (f3 g hg).2 (by decide)⟩
    refine ev_pos rfl (ev_call (pairs_ev N D hN hD rq l (by omega) (by omega) hs h64) (ev_call (ref_pairs_ev N D hN hD rq l (by omega) (by omega) hs h64) (ev_call (same_pairs _ (Nat.le_trans (pairsTo_length N D rq l) (by omega))) ?_)))
    refine ev_pos rfl (ev_pos rfl (ev_pos rfl (ev_opt (check_some (by omega) hs2 h64) (ev_call (rcheck_ev N D rq l (by omega) h64 (by omega) hs2) (ev_some ?_)))))
    simp
end Go.Proofs.YtjlifcbddednaaaDoor.Pure
