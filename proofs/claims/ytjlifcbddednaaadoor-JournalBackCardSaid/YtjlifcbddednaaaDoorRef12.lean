/- The document's answers of layer 12, and journal.Pairs, in plain words. -/
import Derived.Test.YtjlifcbddednaaaDoorFewJ
import Derived.Test.YtjlifcbddednaaaDoorKeysJ
import Derived.Test.YtjlifcbddednaaaDoorRefJ
import Derived.Test.YtjlifcbddednaaaDoorPx9
namespace Go.Proofs.YtjlifcbddednaaaDoor.E
open Go.RowKit Go.Proofs.YtjlifcbddednaaaDoor.P Go.Proofs.YtjlifcbddednaaaDoorW.PrintWords Go.Proofs.YtjlifcbddednaaaDoorW.PrintLast Go.Proofs.YtjlifcbddednaaaDoorW.PrintMore
theorem same_text {a b : ByteArray} : a.toList = b.toList ↔ a = b := toList_inj
theorem zero_loop (l : List Leg_) (a : ByteArray) (hl : l.length ≤ 1000000) (h64 : ints64 l) : ∀ (m i : Nat), l.length - i = m → i ≤ l.length → Ev (fun k => cambistref12_zero.l0 k l a (amtsOf (l.take i) a) (i : Int)) (decide (sumI (amtsOf l a) = 0)) := by
  intro m
  induction m with
  | zero =>
    intro i hm hi
    obtain rfl : i = l.length := by omega
    refine ev_succ ?_
    simp only [cambistref12_zero.l0]
    rw [List.take_length]
    refine ev_neg (by omega) (ev_call (ref_sum _ (fun x hx => by obtain ⟨g, hg, _, e⟩ := amts_mem hx; exact e ▸ h64 g hg) (by have := amts_length l a; omega)) ?_)
    by_cases h : sumI (amtsOf l a) = 0
    · rw [h, out_zero]
      exact ev_pos (by first | rfl | trivial) (ev_some rfl)
    · rcases out_ne h with h1 | h1
      · exact ev_neg h1 (ev_some (by simp [h]))
      · by_cases h2 : (outOf (sumI (amtsOf l a))).1 = 0
        · refine ev_pos h2 (ev_some ?_)
          rw [beq_eq_false_iff_ne.2 h1]
          simp [h]
        · exact ev_neg h2 (ev_some (by simp [h]))
  | succ m ih =>
    intro i hm hi
    have hlt : i < l.length := by omega
    have hnx : amtsOf (l.take (i + 1)) a = amtsOf (l.take i) a ++ amtsOf [l[i]] a := by rw [List.take_succ_eq_append_getElem hlt, amts_app]
    have hln := amts_length (l.take i) a
    have hlt2 : (l.take i).length ≤ i := List.length_take_le ..
    refine ev_succ ?_
    simp only [cambistref12_zero.l0]
    rw [rd_leg l i hlt, wrap_small (by omega : i ≤ l.length) hl]
    refine ev_pos (by omega) (ev_pos (by omega) ?_)
    have hi := ih (i + 1) (by omega) (by omega)
    rw [hnx] at hi
    by_cases h : l[i].f1 = a
    · rw [amts_hit h] at hi
      exact ev_pos (same_text.2 h) (ev_pos (by omega) hi)
    · rw [amts_miss h, List.append_nil] at hi
      exact ev_neg (fun e => h (same_text.1 e)) hi
theorem zero_ev (l : List Leg_) (a : ByteArray) (hl : l.length ≤ 1000000) (h64 : ints64 l) : Ev (fun k => cambistref12_zero.f k l a) (decide (sumI (amtsOf l a) = 0)) := zero_loop l a hl h64 _ 0 rfl (by omega)
theorem rcheck_loop (n d : Int) (rq : ByteArray) (l : List Leg_) (hl : l.length ≤ 1000000) (h64 : ints64 l) (hs : ∀ g ∈ l, g.f0.size ≤ 140737488351232 ∧ g.f1.size ≤ 140737488351232) : ∀ (m i : Nat), l.length - i = m → i ≤ l.length →
    Ev (fun k => cambistref12_Check.l0 k (i : Int) n d rq l) (chkOf ((l.drop i).all fun g => legOk g && decide (sumI (amtsOf l g.f1) = 0))) := by
  intro m
  induction m with
  | zero =>
    intro i hm hi
    obtain rfl : i = l.length := by omega
    refine ev_succ ?_
    simp only [cambistref12_Check.l0]
    refine ev_neg (by omega) (ev_some (by simp [chkOf]))
  | succ m ih =>
    intro i hm hi
    have hlt : i < l.length := by omega
    have hm := hs _ (List.getElem_mem hlt)
    refine ev_succ ?_
    simp only [cambistref12_Check.l0]
    rw [rd_leg l i hlt, drop_cons hlt, List.all_cons]
    refine ev_pos (by omega) (ev_pos (by omega) (ev_call (ref_who _ hm.1) (ev_call (ref_asset _ hm.2) (ev_call (zero_ev l _ hl h64) ?_))))
    have hg : legOk l[i] = (isWho l[i].f0 && isPart isUp 6 l[i].f1 && decide (l[i].f2 ≠ 0)) := rfl
    rw [hg]
    cases h1 : isWho l[i].f0 with
    | false => exact ev_neg (by decide) (ev_some (by simp [chkOf]))
    | true =>
      refine ev_pos rfl ?_
      cases h2 : isPart isUp 6 l[i].f1 with
      | false => exact ev_neg (by decide) (ev_some (by simp [chkOf]))
      | true =>
        refine ev_pos rfl ?_
        by_cases h3 : l[i].f2 = 0
        · exact ev_pos h3 (ev_some (by simp [chkOf, h3]))
        · refine ev_neg h3 ?_
          by_cases h4 : sumI (amtsOf l l[i].f1) = 0
          · rw [decide_eq_true h4]
            refine ev_pos rfl ?_
            rw [wrap_small (by omega : i ≤ l.length) hl]
            refine ev_eq ?_ (ih (i + 1) (by omega) (by omega))
            simp [h3]
          · rw [decide_eq_false h4]
            exact ev_neg (by decide) (ev_some (by simp [chkOf]))
theorem rcheck_ev (n d : Int) (rq : ByteArray) (l : List Leg_) (hl : l.length ≤ 1000000) (h64 : ints64 l) (hr : rq.size ≤ 140737488351232) (hs : ∀ g ∈ l, g.f0.size ≤ 140737488351232 ∧ g.f1.size ≤ 140737488351232) :
    Ev (fun k => cambistref12_Check.f k n d rq l) (chkOf (checkB rq l)) := by
  unfold cambistref12_Check.f
  have bad : checkB rq l = false → Ev (fun k => cambistref12_Check.j0 k true n d rq l) (chkOf (checkB rq l)) := fun h => by
    refine ev_succ ?_
    simp only [cambistref12_Check.j0]
    exact ev_pos (by first | rfl | trivial) (ev_some (by rw [h]; rfl))
  refine ev_call (ref_word rq hr) ?_
  cases h0 : isPart isSign 12 rq with
  | false => exact ev_neg (by decide) (bad (by unfold checkB; rw [h0]; simp))
  | true =>
    refine ev_pos rfl ?_
    by_cases h1 : l.length < 2
    · exact ev_pos (by omega) (bad (by unfold checkB; rw [decide_eq_false (by omega : ¬ 2 ≤ l.length)]; simp))
    · refine ev_neg (by omega) ?_
      by_cases h2 : 200 < l.length
      · rw [decide_eq_true (by omega : (l.length : Int) > 200)]
        exact bad (by unfold checkB; rw [decide_eq_false (by omega : ¬ l.length ≤ 200)]; simp)
      · rw [decide_eq_false (by omega : ¬ (l.length : Int) > 200)]
        refine ev_succ ?_
        simp only [cambistref12_Check.j0]
        refine ev_neg (by decide) (ev_eq ?_ (rcheck_loop n d rq l hl h64 hs _ 0 rfl (by omega)))
        unfold checkB
        rw [h0, decide_eq_true (by omega : 2 ≤ l.length), decide_eq_true (by omega : l.length ≤ 200)]
        congr 1
        rw [List.drop_zero]
        simp only [Bool.true_and, Bool.and_true]
        rw [Bool.eq_iff_iff]
        simp only [Bool.and_eq_true, List.all_eq_true]
        exact ⟨fun h => ⟨fun g hg => (h g hg).1, fun g hg => (h g hg).2⟩, fun h g hg => ⟨h.1 g hg, h.2 g hg⟩⟩
end Go.Proofs.YtjlifcbddednaaaDoor.E
