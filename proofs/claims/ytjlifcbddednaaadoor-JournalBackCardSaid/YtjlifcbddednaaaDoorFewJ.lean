/- At most so many legs; what journal.Check answers of legs that fit. -/
import Derived.Test.YtjlifcbddednaaaDoorJPure
import Derived.Test.YtjlifcbddednaaaDoorJCheck
import Derived.Test.YtjlifcbddednaaaDoorPx3
namespace Go.Proofs.YtjlifcbddednaaaDoor.E
open Go.RowKit Go.Proofs.YtjlifcbddednaaaDoor.P Go.Proofs.YtjlifcbddednaaaDoorW.PrintWords Go.Proofs.YtjlifcbddednaaaDoorW.PrintLast
theorem rd_leg (l : List Leg_) (i : Nat) (h : i < l.length) : rd_T42 l (i : Int) = l[i] := by
  unfold rd_T42
  rw [List.getD_eq_getElem?_getD, Int.toNat_natCast, List.getElem?_eq_getElem h]
  rfl
theorem drop_cons {α : Type} {l : List α} {i : Nat} (h : i < l.length) : l.drop i = l[i] :: l.drop (i + 1) := List.drop_eq_getElem_cons h
/-- At most two hundred and ten legs, of names of at most a hundred bytes. -/
def fewB (rq : ByteArray) (l : List Leg_) : Bool := decide (l.length ≤ 210) && decide (rq.size ≤ 100) && l.all fun g => decide (g.f0.size ≤ 100) && decide (g.f1.size ≤ 100)
theorem few_loop (n d : Int) (rq : ByteArray) (l : List Leg_) (hl : l.length ≤ 1000000) : ∀ (m i : Nat), l.length - i = m → i ≤ l.length → Ev (fun k => cambistlaw12_few.l0 k (i : Int) n d rq l) ((l.drop i).all fun g => decide (g.f0.size ≤ 100) && decide (g.f1.size ≤ 100)) := by
  intro m
  induction m with
  | zero =>
    intro i hm hi
    obtain rfl : i = l.length := by omega
    refine ev_succ ?_
    simp only [cambistlaw12_few.l0]
    refine ev_neg (by omega) (ev_some (by simp))
  | succ m ih =>
    intro i hm hi
    have hlt : i < l.length := by omega
    refine ev_succ ?_
    simp only [cambistlaw12_few.l0]
    rw [rd_leg l i hlt, drop_cons hlt, List.all_cons]
    refine ev_pos (by omega) (ev_pos (by omega) ?_)
    by_cases h1 : (l[i].f0).size ≤ 100
    · refine ev_neg (by omega) ?_
      by_cases h2 : (l[i].f1).size ≤ 100
      · refine ev_neg (by omega) ?_
        rw [wrap_next (by omega : i ≤ l.length) (by omega), decide_eq_true h1, decide_eq_true h2]
        exact ih (i + 1) (by omega) (by omega)
      · refine ev_pos (by omega) (ev_some ?_)
        rw [decide_eq_false h2]
        simp
    · refine ev_pos (by omega) (ev_some ?_)
      rw [decide_eq_false h1]
      simp
theorem few_ev (n d : Int) (rq : ByteArray) (l : List Leg_) : Ev (fun k => cambistlaw12_few.f k n d rq l) (fewB rq l) := by
  unfold cambistlaw12_few.f fewB
  by_cases h1 : l.length ≤ 210
  · rw [decide_eq_true h1]
    refine ev_neg (by omega) ?_
    by_cases h2 : rq.size ≤ 100
    · rw [decide_eq_true h2, decide_eq_false (by omega : ¬ (rq.size : Int) > 100)]
      refine ev_succ ?_
      simp only [cambistlaw12_few.j0]
      exact ev_neg (by decide) (few_loop n d rq l (by omega) _ 0 rfl (by omega))
    · rw [decide_eq_false h2, decide_eq_true (by omega : (rq.size : Int) > 100)]
      refine ev_succ ?_
      simp only [cambistlaw12_few.j0]
      exact ev_pos (by first | rfl | trivial) (ev_some rfl)
  · rw [decide_eq_false h1]
    refine ev_pos (by omega) ?_
    refine ev_succ ?_
    simp only [cambistlaw12_few.j0]
    exact ev_pos (by first | rfl | trivial) (ev_some rfl)
theorem few_get {rq : ByteArray} {l : List Leg_} (h : fewB rq l = true) : l.length ≤ 210 ∧ rq.size ≤ 100 ∧ ∀ g ∈ l, g.f0.size ≤ 100 ∧ g.f1.size ≤ 100 := by
  unfold fewB at h
  simp only [Bool.and_eq_true, decide_eq_true_eq, List.all_eq_true] at h
  exact ⟨h.1.1, h.1.2, h.2⟩
/-- What every entry's numbers are. -/
def ints64 (l : List Leg_) : Prop := ∀ g ∈ l, in64 g.f2
theorem check_some {n d : Int} {rq : ByteArray} {l : List Leg_} (hr : rq.size ≤ 140737488351232) (h : ∀ g ∈ l, g.f0.size ≤ 140737488351232 ∧ g.f1.size ≤ 140737488351232) (h64 : ints64 l) : journal_Check.f n d rq l = some (chkOf (checkB rq l)) := by
  unfold journal_Check.f
  refine if_pos ⟨decide_eq_true hr, fun g hg => ?_⟩
  unfold legIn
  rw [decide_eq_true (h g hg).1, decide_eq_true (h g hg).2, decide_eq_true (h64 g hg).1, decide_eq_true (h64 g hg).2]
  rfl
end Go.Proofs.YtjlifcbddednaaaDoor.E
