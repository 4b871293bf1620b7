/- The pure statement of LabelKeys: keys and their parts are what the document says. -/
import Derived.Test.YtalepbkdakjhdaaDoorAwake02
import Derived.Test.YtalepbkdakjhdaaDoorKeys
import Derived.Test.YtalepbkdakjhdaaDoorOpen
import Derived.Test.YtalepbkdakjhdaaDoorPx5
namespace Go.Proofs.YtalepbkdakjhdaaDoor.Pure
open Go.RowKit Go.Proofs.YtalepbkdakjhdaaDoor.E Go.Proofs.YtalepbkdakjhdaaDoor.P Go.Proofs.YtalepbkdakjhdaaDoorW.PrintWords Go.Proofs.YtalepbkdakjhdaaDoorW.PrintLast
theorem splitOf_len (s : ByteArray) (hs : s.size ≤ 100) : (splitOf s.data.toList).2.1.length ≤ 140737488351232 := by
  have key : ∀ r : List UInt8, r.length ≤ 100 → (partsOf r).length ≤ 140737488351232 := by
    intro r hr
    have h1 := congrArg List.length (barred_partsOf r)
    have h2 : (partsOf r).length ≤ (barred (partsOf r)).length := by
      generalize partsOf r = l
      induction l with
      | nil => simp
      | cons p l ih => rw [barred_cons, List.length_cons, List.length_cons, List.length_append]; omega
    rw [h1, List.length_cons] at h2
    omega
  have hl : s.data.toList.length ≤ 100 := by rw [size_len]; exact hs
  match h : s.data.toList with
  | [] => exact Nat.zero_le _
  | [c] => exact Nat.zero_le _
  | c :: b :: r =>
    rw [h] at hl
    simp only [List.length_cons] at hl
    by_cases hb : b = 124
    · subst hb
      cases hk : okKey (c.toNat : Int) (partsOf r) with
      | true => rw [splitOf_yes c r hk]; exact key r (by omega)
      | false => rw [splitOf_no c r hk]; exact Nat.zero_le _
    · rw [splitOf_else c b r hb]; exact Nat.zero_le _
theorem keys_loop (a : Int) (l : List ByteArray) (s : ByteArray) (hl : ∀ p ∈ l, p.size ≤ 140737488351232) (h10 : l.length ≤ 10) (hs : s.size ≤ 100) : ∀ (m i : Nat), l.length - i = m → i ≤ l.length → Ev (fun k => cambistlaw02_LabelKeys.l0 k a l s true (i : Int)) true := by
  intro m
  induction m with
  | zero =>
    intro i hm hi
    refine ev_succ ?_
    simp only [cambistlaw02_LabelKeys.l0]
    refine ev_neg (by omega) (ev_call (key_some a l hl) (ev_call (ref_key a l hl) (ev_call (split_some s (by omega)) (ev_call (ref_split s (by omega)) (ev_call (ref_same _ _ (splitOf_len s hs)) ?_)))))
    refine ev_pos trivial (ev_pos rfl (ev_pos rfl (ev_pos rfl (ev_pos (decide_eq_true rfl) (ev_some (beq_self_eq_true _))))))
  | succ m ih =>
    intro i hm hi
    refine ev_succ ?_
    simp only [cambistlaw02_LabelKeys.l0]
    refine ev_pos (by omega) (ev_pos (by omega) ?_)
    by_cases h : ((rdOf ByteArray.empty l (i : Int)).size : Int) > 100
    · exact ev_pos h (ev_some rfl)
    · refine ev_neg h ?_
      rw [wrap_next hi (by omega)]
      exact ih (i + 1) (by omega) (by omega)
theorem LabelKeys (a0 : Int) (_g0 : (Lit.int .u8 a0).wf = true) (l1 : List ByteArray) (g1 : (∀ p ∈ l1, p.size ≤ lim) ∧ l1.length * Tryd.prog.bytesOf 9 ≤ lim) (s : ByteArray) (_g2 : s.size ≤ lim) : ∃ k, cambistlaw02_LabelKeys.f k a0 l1 s = some true := by
  refine Ev.rounds (g := fun k => cambistlaw02_LabelKeys.f k a0 l1 s) ?_
  simp only [cambistlaw02_LabelKeys.f]
  refine ev_call awake_ev ?_
  have out : Ev (fun k => cambistlaw02_LabelKeys.j0 k a0 l1 s true true) true := by
    refine ev_succ ?_
    simp only [cambistlaw02_LabelKeys.j0]
    exact ev_pos trivial (ev_some rfl)
  by_cases h10 : (l1.length : Int) > 10
  · exact ev_pos h10 out
  · refine ev_neg h10 ?_
    by_cases h100 : (s.size : Int) > 100
    · rw [decide_eq_true h100]; exact out
    · rw [decide_eq_false h100]
      refine ev_succ ?_
      simp only [cambistlaw02_LabelKeys.j0]
      exact ev_neg (by decide) (keys_loop a0 l1 s g1.1 (by omega) (by omega) l1.length 0 (by omega) (by omega))
end Go.Proofs.YtalepbkdakjhdaaDoor.Pure
