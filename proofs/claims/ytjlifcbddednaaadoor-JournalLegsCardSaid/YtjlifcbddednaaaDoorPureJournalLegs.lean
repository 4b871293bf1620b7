/- The law JournalLegs answers true. -/
import Derived.Test.YtjlifcbddednaaaDoorLegs12
import Derived.Test.YtjlifcbddednaaaDoorFewJ
import Derived.Test.YtjlifcbddednaaaDoorOpenJ
import Derived.Test.YtjlifcbddednaaaDoorPx13
namespace Go.Proofs.YtjlifcbddednaaaDoor.Pure
open Go.RowKit Go.Proofs.YtjlifcbddednaaaDoor.P Go.Proofs.YtjlifcbddednaaaDoor.E Go.Proofs.YtjlifcbddednaaaDoorW.PrintWords Go.Proofs.YtjlifcbddednaaaDoorW.PrintLast
theorem good_64 {l : List Leg_} (h : ∀ a ∈ l, goodLeg a) : ints64 l := fun g hg => by
  have := (h g hg).2.2
  simp [Lit.wf] at this
  exact this
theorem ev_some_of {α : Type} {g : Nat → Option α} {r : α} (h : ∀ k, g k = some r) : Ev g r := ⟨0, fun k _ => h k⟩
theorem chk_ok (b : Bool) : (chkOf b = 0) ↔ b = true := by cases b <;> simp [chkOf]
theorem chk_no (b : Bool) : (chkOf b = 120) ↔ b = false := by cases b <;> simp [chkOf]
theorem set_mem {l : List Leg_} {p : Nat} {x y : Leg_} (h : y ∈ l.set p x) : y ∈ l ∨ y = x := List.mem_or_eq_of_mem_set h
/-- What is asked of legs' bounds. -/
def legsFit (l : List Leg_) : Prop := (∀ g ∈ l, g.f0.size ≤ 140737488351232 ∧ g.f1.size ≤ 140737488351232) ∧ ints64 l
theorem check_fit {n d : Int} {rq : ByteArray} {l : List Leg_} (hr : rq.size ≤ 140737488351232) (h : legsFit l) : journal_Check.f n d rq l = some (chkOf (checkB rq l)) := check_some hr h.1 h.2
theorem fit_mem {l m : List Leg_} (h : legsFit l) (hm : ∀ g ∈ m, g ∈ l) : legsFit m := ⟨fun g hg => h.1 g (hm g hg), fun g hg => h.2 g (hm g hg)⟩
theorem fit_set {l : List Leg_} (h : legsFit l) (p : Nat) (hp : p < l.length) (x : Int) (hx : in64 x) : legsFit (l.set p ⟨l[p].f0, l[p].f1, x⟩) := by
  have hin := List.getElem_mem hp
  have h0 := h.1 l[p] hin
  refine ⟨fun g hg => ?_, fun g hg => ?_⟩
  · rcases set_mem hg with hg | rfl
    · exact h.1 g hg
    · exact h0
  · rcases set_mem hg with hg | rfl
    · exact h.2 g hg
    · exact hx
theorem legs_at (n d : Int) (rq : ByteArray) (l : List Leg_) (x : Int) (hr : rq.size ≤ 140737488351232) (hf : legsFit l) (hx : in64 x) (hc : checkB rq l = true) (p : Nat) (hp : p < l.length) :
    journal_Check.f n d rq (l.drop p ++ l.take p) = some 0 ∧ journal_Check.f n d rq (l.take p ++ l.drop (p + 1)) = some 120 ∧ journal_Check.f n d rq (l.set p ⟨l[p].f0, l[p].f1, x⟩) = some (chkOf (decide (x = l[p].f2))) := by
  refine ⟨?_, ?_, ?_⟩
  · rw [check_fit hr (fit_mem hf (fun g hg => (List.mem_append.1 hg).elim (fun h => List.mem_of_mem_drop h) (fun h => List.mem_of_mem_take h))), check_turn hc]
    rfl
  · rw [check_fit hr (fit_mem hf (fun g hg => (List.mem_append.1 hg).elim (fun h => List.mem_of_mem_take h) (fun h => List.mem_of_mem_drop h))), check_less hc p hp]
    rfl
  · rw [check_fit hr (fit_set hf p hp x hx), check_other hc p hp]
theorem tmod_nat (v L : Nat) : Int.tmod (v : Int) (L : Int) = ((v % L : Nat) : Int) := by
  rw [Int.tmod_eq_emod_of_nonneg (Int.natCast_nonneg v)]
  rfl
theorem neg_in {x : Int} (hx : in64 x) (h : x < 0) : ∃ v : Nat, wrap64 (-(wrap64 (x + 1))) = (v : Int) := by
  have h1 := hx.1
  refine ⟨(-(x + 1)).toNat, ?_⟩
  rw [wrap_in (x := x + 1) (by omega) (by omega), wrap_in (x := -(x + 1)) (by omega) (by omega)]
  omega
theorem set_rd (l : List Leg_) (p : Nat) (hp : p < l.length) : rd_T42 l (p : Int) = l[p] := rd_leg l p hp
theorem legs_j0 (n d : Int) (rq : ByteArray) (l : List Leg_) (at_ x : Int) (ha : in64 at_) (hx : in64 x) (hr : rq.size ≤ 140737488351232) (hf : legsFit l) (hc : checkB rq l = true) (hl : l.length ≤ 210) (k : Nat) : cambistlaw12_JournalLegs.j0 (k + 1) at_ x true false n d rq l = some true := by
  obtain ⟨_, h2, _⟩ := check_get hc
  have hL : ¬ (l.length : Int) = 0 := by omega
  have go : ∀ p : Nat, p < l.length → (0 : Int) ≤ (p : Int) ∧ (p : Int) ≤ (l.length : Int) ∧ (p : Int) < (l.length : Int) ∧ wrap64 ((p : Int) + 1) = ((p + 1 : Nat) : Int) ∧ (0 : Int) ≤ ((p + 1 : Nat) : Int) ∧ ((p + 1 : Nat) : Int) ≤ (l.length : Int) ∧ (l.drop p).length < 3518437208883 ∧ (l.drop p).length + (l.take p).length < 3518437208883 ∧ (l.take p).length < 3518437208883 ∧ (l.take p).length + (l.drop (p + 1)).length < 3518437208883 ∧ l.length < 3518437208883 := fun p hp => by
    have e1 : (l.drop p).length = l.length - p := List.length_drop
    have e2 : (l.take p).length = min p l.length := List.length_take
    have e3 : (l.drop (p + 1)).length = l.length - (p + 1) := List.length_drop
    refine ⟨by omega, by omega, by omega, wrap_next (by omega : p ≤ l.length) (by omega), by omega, by omega, by omega, by omega, by omega, by omega, by omega⟩
  have fin : ∀ p : Nat, p < l.length → ((chkOf (decide (x = (rd_T42 l (p : Int)).f2)) == 0) == (x == (rd_T42 l (p : Int)).f2)) = true := fun p hp => by
    rw [set_rd l p hp]
    by_cases h : x = l[p].f2
    · rw [decide_eq_true h, beq_iff_eq.2 h]
      rfl
    · rw [decide_eq_false h, beq_eq_false_iff_ne.2 h]
      rfl
  simp only [cambistlaw12_JournalLegs.j0]
  rw [if_neg (by decide)]
  by_cases hn : at_ < 0
  · obtain ⟨v, hv⟩ := neg_in ha hn
    have hp : v % l.length < l.length := Nat.mod_lt _ (by omega)
    rw [if_pos hn, if_neg hL, hv, tmod_nat]
    generalize v % l.length = p at hp
    obtain ⟨g0, g1, g2, g3, g4, g5, g6, g7, g8, g9, g10⟩ := go p hp
    obtain ⟨c1, c2, c3⟩ := legs_at n d rq l x hr hf hx hc p hp
    simp only [Option.bind_some, List.nil_append, List.length_nil, Nat.zero_add, Int.toNat_natCast, g3]
    rw [if_pos g0, if_pos g1, if_pos g6, if_pos g7, if_pos g8, if_pos g4, if_pos g5, if_pos g9, if_pos g10, if_pos g2, if_pos (by first | rfl | trivial), c1]
    simp only [Option.bind_some]
    rw [if_pos (by first | rfl | trivial), c2]
    simp only [Option.bind_some]
    rw [if_pos (by first | rfl | trivial), set_rd l p hp, c3]
    simp only [Option.bind_some]
    rw [if_pos g2]
    have := fin p hp
    rw [set_rd l p hp] at this
    rw [this]
  · obtain ⟨v, rfl⟩ := Int.eq_ofNat_of_zero_le (by omega : 0 ≤ at_)
    have hp : v % l.length < l.length := Nat.mod_lt _ (by omega)
    rw [if_neg hn, if_neg hL, tmod_nat]
    generalize v % l.length = p at hp
    obtain ⟨g0, g1, g2, g3, g4, g5, g6, g7, g8, g9, g10⟩ := go p hp
    obtain ⟨c1, c2, c3⟩ := legs_at n d rq l x hr hf hx hc p hp
    simp only [Option.bind_some, List.nil_append, List.length_nil, Nat.zero_add, Int.toNat_natCast, g3]
    rw [if_pos g0, if_pos g1, if_pos g6, if_pos g7, if_pos g8, if_pos g4, if_pos g5, if_pos g9, if_pos g10, if_pos g2, if_pos (by first | rfl | trivial), c1]
    simp only [Option.bind_some]
    rw [if_pos (by first | rfl | trivial), c2]
    simp only [Option.bind_some]
    rw [if_pos (by first | rfl | trivial), set_rd l p hp, c3]
    simp only [Option.bind_some]
    rw [if_pos g2]
    have := fin p hp
    rw [set_rd l p hp] at this
    rw [this]
theorem JournalLegs (n d : Int) (rq : ByteArray) (l : List Leg_) (hg : goodEnt ⟨n, d, rq, l⟩) (at_ : Int) (g1 : (Lit.int .i64 at_).wf = true) (x : Int) (g2 : (Lit.int .i64 x).wf = true) : ∃ k, cambistlaw12_JournalLegs.f k n d rq l at_ x = some true := by
  obtain ⟨_, _, hr, hl, _⟩ := hg
  have ha : in64 at_ := by simp [Lit.wf] at g1; exact g1
  have hx : in64 x := by simp [Lit.wf] at g2; exact g2
  have hr' : rq.size ≤ 140737488351232 := hr
  have hf : legsFit l := ⟨fun g hg => ⟨(hl g hg).1, (hl g hg).2.1⟩, good_64 hl⟩
  refine Ev.rounds (g := fun k => cambistlaw12_JournalLegs.f k n d rq l at_ x) ?_
  unfold cambistlaw12_JournalLegs.f
  have quit : Ev (fun k => cambistlaw12_JournalLegs.j0 k at_ x true true n d rq l) true := by
    refine ev_succ ?_
    simp only [cambistlaw12_JournalLegs.j0]
    exact ev_pos (by first | rfl | trivial) (ev_some rfl)
  refine ev_opt (show cambistlaw12_awake.f = some true from rfl) (ev_call (few_ev n d rq l) ?_)
  cases hq : fewB rq l with
  | false => exact ev_neg (by decide) quit
  | true =>
    obtain ⟨f1, _, _⟩ := few_get hq
    refine ev_pos rfl (ev_opt (check_fit hr' hf) ?_)
    cases hc : checkB rq l with
    | false => exact quit
    | true => exact ev_succ (ev_some_of (fun k => legs_j0 n d rq l at_ x ha hx hr' hf hc f1 k))
end Go.Proofs.YtjlifcbddednaaaDoor.Pure
