/- The law SlipDays answers true. -/
import Derived.Test.YtnngbnhbmgdkoaaDoorSPlain
import Derived.Test.YtnngbnhbmgdkoaaDoorOpenS
import Derived.Test.YtnngbnhbmgdkoaaDoorPx9
namespace Go.Proofs.YtnngbnhbmgdkoaaDoor.Pure
open Go.RowKit Go.Proofs.YtnngbnhbmgdkoaaDoor.P Go.Proofs.YtnngbnhbmgdkoaaDoor.E Go.Proofs.YtnngbnhbmgdkoaaDoorW.PrintWords Go.Proofs.YtnngbnhbmgdkoaaDoorW.PrintLast
theorem ents_64d {l : List Ent_} (h : ∀ a ∈ l, goodEnt a) : legs64 l := fun x hx g hg => by
  have := ((h x hx).2.2.2.1 g hg).2.2
  simp [Lit.wf] at this
  exact this
theorem u64_range {a : Int} (h : (Lit.int .u64 a).wf = true) : ∃ n : Nat, a = n ∧ n < 18446744073709551616 := by
  have : 0 ≤ a ∧ a < 18446744073709551616 := by
    simp [Lit.wf, IntKind.min, IntKind.max, IntKind.signed, IntKind.bits] at h
    omega
  exact ⟨a.toNat, by omega, by omega⟩
/-- Days that follow one another. -/
theorem got_split (l : List Ent_) (who asset : ByteArray) (a b c : Int) (h1 : a ≤ b) (h2 : b ≤ c) : sumI (gotOf l who asset a c) = sumI (gotOf l who asset a b) + sumI (gotOf l who asset b c) := by
  induction l with
  | nil => rfl
  | cons x t ih =>
    simp only [gotOf, sumI_app, ih]
    by_cases e1 : a ≤ x.f1 ∧ x.f1 < b
    · rw [if_pos e1, if_pos (by omega), if_neg (by omega : ¬ (b ≤ x.f1 ∧ x.f1 < c))]
      simp only [sumI]
      omega
    · by_cases e2 : b ≤ x.f1 ∧ x.f1 < c
      · rw [if_neg e1, if_pos e2, if_pos (by omega)]
        simp only [sumI]
        omega
      · rw [if_neg e1, if_neg e2, if_neg (by omega)]
        simp only [sumI]
        omega
theorem make_cases (l : List Ent_) (who asset : ByteArray) (day : Int) : (in64 (sumI (gotOf l who asset 0 day)) ∧ in64 (sumI (gotOf l who asset 0 day) + sumI (gotOf l who asset day (day + 1))) ∧ makeOf l who asset day = (who, asset, day, sumI (gotOf l who asset 0 day), rowsOf l who asset day, sumI (gotOf l who asset 0 day) + sumI (gotOf l who asset day (day + 1)), 0)) ∨ makeOf l who asset day = (⟨#[]⟩, ⟨#[]⟩, 0, 0, [], 0, 10) := by
  unfold makeOf closeOf
  rw [rowsOf_amts]
  by_cases h1 : in64 (sumI (gotOf l who asset 0 day))
  · rw [if_pos h1]
    by_cases h2 : in64 (sumI (gotOf l who asset 0 day) + sumI (gotOf l who asset day (day + 1)))
    · rw [if_pos h2]
      exact .inl ⟨h1, h2, rfl⟩
    · rw [if_neg h2]
      exact .inr rfl
  · rw [if_neg h1]
    exact .inr rfl
theorem SlipDays (l : List Ent_) (hg : (∀ a ∈ l, goodEnt a) ∧ l.length * Tryd.prog.bytesOf 45 ≤ lim) (who : ByteArray) (_hw : who.size ≤ lim) (asset : ByteArray) (_ha : asset.size ≤ lim) (day : Int) (hd : (Lit.int .u64 day).wf = true) : ∃ k, cambistlaw19_SlipDays.f k l who asset day = some true := by
  have h64 := ents_64d hg.1
  have hd0 : 0 ≤ day ∧ day < 18446744073709551616 := by
    obtain ⟨n, rfl, hn⟩ := u64_range hd
    omega
  refine Ev.rounds (g := fun k => cambistlaw19_SlipDays.f k l who asset day) ?_
  unfold cambistlaw19_SlipDays.f
  have bad : Ev (fun k => cambistlaw19_SlipDays.j0 k l who asset day true true) true := by
    refine ev_succ ?_
    simp only [cambistlaw19_SlipDays.j0]
    exact ev_pos trivial (ev_some rfl)
  refine ev_opt (show cambistlaw19_awake.f = some true from rfl) (ev_call (few_ev l) ?_)
  cases hf : fewS l with
  | false => exact ev_neg (by decide) bad
  | true =>
    refine ev_pos rfl ?_
    by_cases hm : day = 18446744073709551615
    · rw [beq_iff_eq.2 hm]
      exact bad
    · rw [beq_eq_false_iff_ne.2 hm]
      have hw1 : IntKind.u64.wrap (day + 1) = day + 1 := by rw [IntKind.wrap_u64]; omega
      refine ev_succ ?_
      simp only [cambistlaw19_SlipDays.j0]
      rw [hw1]
      refine ev_neg (by decide) (ev_call (make_ev l who asset day hf h64) (ev_call (make_ev l who asset (day + 1) hf h64) ?_))
      have bad1 : ∀ (a1 a2 : ByteArray) (a3 a4 : Int) (a5 : List Row_) (a6 : Int) (b1 b2 : ByteArray) (b3 b4 : Int) (b5 : List Row_) (b6 : Int), Ev (fun k => cambistlaw19_SlipDays.j1 k l who asset day true true a1 a2 a3 a4 a5 a6 b1 b2 b3 b4 b5 b6) true := fun a1 a2 a3 a4 a5 a6 b1 b2 b3 b4 b5 b6 => by
        refine ev_succ ?_
        simp only [cambistlaw19_SlipDays.j1]
        exact ev_pos trivial (ev_some rfl)
      rcases make_cases l who asset day with ⟨i1, i2, e1⟩ | e1
      · rw [e1]
        refine ev_pos rfl ?_
        rcases make_cases l who asset (day + 1) with ⟨i3, i4, e2⟩ | e2
        · rw [e2]
          have hs := got_split l who asset 0 day (day + 1) hd0.1 (by omega)
          show Ev (fun k => cambistlaw19_SlipDays.j1 k l who asset day true false _ _ _ _ _ _ _ _ _ _ _ _) true
          refine ev_succ ?_
          simp only [cambistlaw19_SlipDays.j1]
          rw [hw1]
          refine ev_neg (by decide) (ev_opt (jsum_some l who asset 0 (day + 1) hf h64) (ev_opt (jsum_some l who asset day (day + 1) hf h64) (ev_pos trivial (ev_pos hs.symm ?_))))
          rw [outOf_in i3]
          refine ev_pos hs (ev_pos rfl ?_)
          by_cases h5 : in64 (sumI (gotOf l who asset day (day + 1)))
          · rw [outOf_in h5]
            refine ev_pos rfl (ev_some ?_)
            rw [show sumI (gotOf l who asset 0 day) + sumI (gotOf l who asset day (day + 1)) - sumI (gotOf l who asset 0 day) = sumI (gotOf l who asset day (day + 1)) by omega, wrap64_in h5]
            simp
          · rw [outOf_over h5]
            exact ev_neg (by decide) (ev_some rfl)
        · rw [e2]
          exact bad1 ..
      · rw [e1]
        exact ev_neg (by decide) (bad1 ..)
end Go.Proofs.YtnngbnhbmgdkoaaDoor.Pure
