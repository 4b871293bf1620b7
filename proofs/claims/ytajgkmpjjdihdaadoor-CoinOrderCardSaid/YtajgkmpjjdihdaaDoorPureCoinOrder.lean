/- The pure statement of CoinOrder. -/
import Derived.Test.YtajgkmpjjdihdaaDoorAwake01
import Derived.Test.YtajgkmpjjdihdaaDoorOpen
import Derived.Test.YtajgkmpjjdihdaaDoorRefSum
import Derived.Test.YtajgkmpjjdihdaaDoorPx6
namespace Go.Proofs.YtajgkmpjjdihdaaDoor.Pure
open Go.RowKit Go.Proofs.YtajgkmpjjdihdaaDoor.E Go.Proofs.YtajgkmpjjdihdaaDoor.P Go.Proofs.YtajgkmpjjdihdaaDoorW.PrintWords Go.Proofs.YtajgkmpjjdihdaaDoorW.PrintLast
theorem at_range (x : Int) (n : Nat) (h0 : 0 ≤ x) (hn : n ≤ 50) : ∃ m : Nat, m ≤ n ∧ Int.tmod x (wrap64 ((n : Int) + 1)) = (m : Int) := by
  rw [wrap_in (by omega) (by omega), Int.tmod_eq_emod_of_nonneg h0]
  have h1 := Int.emod_nonneg x (show ((n : Int) + 1) ≠ 0 by omega)
  have h2 := Int.emod_lt_of_pos x (show 0 < ((n : Int) + 1) by omega)
  exact ⟨(x % ((n : Int) + 1)).toNat, by omega, by omega⟩
theorem CoinOrder (l : List Int) (g0 : (∀ p ∈ l, (Lit.int .i64 p).wf = true) ∧ l.length * Tryd.prog.bytesOf 2 ≤ lim) (a1 : Int) (g1 : (Lit.int .i64 a1).wf = true) (a2 : Int) (g2 : (Lit.int .i64 a2).wf = true) : ∃ k, cambistlaw01_CoinOrder.f k l a1 a2 = some true := by
  have hl : ∀ x ∈ l, in64 x := fun x hx => i64_range (g0.1 x hx)
  have h1 := i64_range g1
  have h2 := i64_range g2
  refine Ev.rounds (g := fun k => cambistlaw01_CoinOrder.f k l a1 a2) ?_
  simp only [cambistlaw01_CoinOrder.f]
  refine ev_call awake_ev ?_
  have skip : Ev (fun k => cambistlaw01_CoinOrder.j0 k l a1 a2 true true) true := by
    refine ev_succ ?_
    simp only [cambistlaw01_CoinOrder.j0]
    exact ev_pos trivial (ev_some rfl)
  by_cases h : (l.length : Int) > 50
  · exact ev_pos h skip
  · refine ev_neg h ?_
    by_cases hm : a2 = -9223372036854775808
    · rw [show (a2 == -9223372036854775808) = true by rw [hm]; rfl]
      exact skip
    · rw [beq_eq_false_iff_ne.2 hm]
      have hn1 := h1.1
      have hn2 := h1.2
      have hm1 := h2.1
      have hm2 := h2.2
      have hw : wrap64 ((l.length : Int) + 1) ≠ 0 := by rw [wrap_in (by omega) (by omega)]; omega
      have hneg : wrap64 (-a2) = -a2 := wrap_in (by omega) (by omega)
      have hsum : ∀ n : Nat, sumI (l.drop n ++ l.take n) = sumI l := fun n => by
        have e : sumI (l.take n ++ l.drop n) = sumI l := by rw [List.take_append_drop]
        rw [sumI_app] at e ⊢
        omega
      have hmem : ∀ n : Nat, ∀ x ∈ l.drop n ++ l.take n, in64 x := fun n x hx => by
        rcases List.mem_append.1 hx with hx | hx
        · exact hl x (List.mem_of_mem_drop hx)
        · exact hl x (List.mem_of_mem_take hx)
      have hlen : ∀ n : Nat, n ≤ l.length → (l.drop n ++ l.take n).length = l.length := fun n hn => by
        rw [List.length_append, List.length_drop, List.length_take]
        omega
      have s2 : ∀ n : Nat, n ≤ l.length → coin_Sum.f ([] ++ l.drop n ++ l.take n) = some (outOf (sumI l)) := fun n hn => by
        rw [List.nil_append, sum_some _ (hmem n) (by rw [hlen n hn]; omega), hsum n]
      have s3 : ∀ n : Nat, n ≤ l.length → coin_Sum.f ([a2] ++ ([] ++ l.drop n ++ l.take n) ++ [-a2]) = some (outOf (sumI l)) := fun n hn => by
        rw [List.nil_append, sum_some _ (fun x hx => by
          rcases List.mem_append.1 hx with hx | hx
          · rcases List.mem_append.1 hx with hx | hx
            · rw [List.mem_singleton.1 hx]; exact h2
            · exact hmem n x hx
          · rw [List.mem_singleton.1 hx]; unfold in64; omega) (by
            rw [List.length_append, List.length_append, hlen n hn]
            simp only [List.length_cons, List.length_nil]
            omega), sumI_app, sumI_app, hsum n]
        congr 2
        simp only [sumI]
        omega
      refine ev_succ ?_
      simp only [cambistlaw01_CoinOrder.j0]
      refine ev_neg (by decide) ?_
      rw [hneg]
      have s1 := sum_some l hl (by omega)
      by_cases hx : a1 < 0
      · refine ev_pos hx (ev_neg hw (ev_opt rfl ?_))
        obtain ⟨n, hn, e⟩ := at_range (wrap64 (-(wrap64 (a1 + 1)))) l.length (by rw [wrap_in (x := a1 + 1) (by omega) (by omega), wrap_in (by omega) (by omega)]; omega) (by omega)
        rw [e, Int.toNat_natCast]
        have hle := hlen n hn
        rw [List.length_append] at hle
        refine ev_pos (by omega) (ev_pos (by omega) (ev_pos (by simp only [List.length_nil]; omega) (ev_opt rfl (ev_pos (by simp only [List.nil_append]; omega) (ev_opt rfl (ev_opt rfl (ev_pos (by simp only [List.nil_append, List.length_append, List.length_cons, List.length_nil]; omega) (ev_opt rfl (ev_pos (by simp only [List.nil_append, List.length_append, List.length_cons, List.length_nil]; omega) (ev_opt s1 (ev_opt (s2 n hn) (ev_opt (s3 n hn) ?_))))))))))))
        exact ev_pos trivial (ev_pos rfl (ev_pos rfl (ev_pos rfl (ev_some (beq_self_eq_true _)))))
      · refine ev_neg hx (ev_neg hw (ev_opt rfl ?_))
        obtain ⟨n, hn, e⟩ := at_range a1 l.length (by omega) (by omega)
        rw [e, Int.toNat_natCast]
        have hle := hlen n hn
        rw [List.length_append] at hle
        refine ev_pos (by omega) (ev_pos (by omega) (ev_pos (by simp only [List.length_nil]; omega) (ev_opt rfl (ev_pos (by simp only [List.nil_append]; omega) (ev_opt rfl (ev_opt rfl (ev_pos (by simp only [List.nil_append, List.length_append, List.length_cons, List.length_nil]; omega) (ev_opt rfl (ev_pos (by simp only [List.nil_append, List.length_append, List.length_cons, List.length_nil]; omega) (ev_opt s1 (ev_opt (s2 n hn) (ev_opt (s3 n hn) ?_))))))))))))
        exact ev_pos trivial (ev_pos rfl (ev_pos rfl (ev_pos rfl (ev_some (beq_self_eq_true _)))))
end Go.Proofs.YtajgkmpjjdihdaaDoor.Pure
