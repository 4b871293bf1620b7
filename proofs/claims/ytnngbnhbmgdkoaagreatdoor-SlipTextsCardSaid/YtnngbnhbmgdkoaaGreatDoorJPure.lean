/- What journal.Check and journal.Sum answer, in plain words. -/
import Derived.Test.YtnngbnhbmgdkoaaGreatDoorSumPure
import Derived.Test.YtnngbnhbmgdkoaaGreatDoorBytes
import Derived.Test.YtnngbnhbmgdkoaaGreatDoorPx0
import Derived.Maps.Views
namespace Go.Proofs.YtnngbnhbmgdkoaaGreatDoor.E
open Go.RowKit Go.Proofs.YtnngbnhbmgdkoaaGreatDoor.P Go.Proofs.YtnngbnhbmgdkoaaGreatDoorW.PrintWords Go.Proofs.YtnngbnhbmgdkoaaGreatDoorW.PrintLast
abbrev Leg_ := S40
/-- The amounts of an asset. -/
def amtsOf (l : List Leg_) (a : ByteArray) : List Int := (l.filter fun g => decide (g.f1 = a)).map fun g => g.f2
def legOk (g : Leg_) : Bool := isWho g.f0 && isPart isUp 6 g.f1 && decide (g.f2 ≠ 0)
/-- May an entry be? -/
def checkB (rq : ByteArray) (l : List Leg_) : Bool := isPart isSign 12 rq && (decide (2 ≤ l.length) && decide (l.length ≤ 200)) && (l.all legOk && l.all fun g => decide (sumI (amtsOf l g.f1) = 0))
def legIn (g : Leg_) : Bool := decide (g.f0.size ≤ 140737488351232) && decide (g.f1.size ≤ 140737488351232) && (decide (-9223372036854775808 ≤ g.f2) && decide (g.f2 ≤ 9223372036854775807))
def chkOf (b : Bool) : Int := if b = true then 0 else 120
def journal_Check.f (_n _d : Int) (rq : ByteArray) (l : List Leg_) : Option Int := if decide (rq.size ≤ 140737488351232) = true ∧ ∀ g ∈ l, legIn g = true then some (chkOf (checkB rq l)) else none
theorem legIn_get {g : Leg_} (h : legIn g = true) : g.f0.size ≤ 140737488351232 ∧ g.f1.size ≤ 140737488351232 ∧ in64 g.f2 := by
  unfold legIn at h
  simp only [Bool.and_eq_true, decide_eq_true_eq] at h
  exact ⟨h.1.1, h.1.2, h.2⟩
theorem amts_nil (a : ByteArray) : amtsOf [] a = [] := rfl
theorem amts_app (l m : List Leg_) (a : ByteArray) : amtsOf (l ++ m) a = amtsOf l a ++ amtsOf m a := by
  unfold amtsOf
  rw [List.filter_append, List.map_append]
theorem amts_hit {g : Leg_} {a : ByteArray} (h : g.f1 = a) : amtsOf [g] a = [g.f2] := by
  unfold amtsOf
  simp [h]
theorem amts_miss {g : Leg_} {a : ByteArray} (h : g.f1 ≠ a) : amtsOf [g] a = [] := by
  unfold amtsOf
  simp [h]
theorem amts_length (l : List Leg_) (a : ByteArray) : (amtsOf l a).length ≤ l.length := by
  unfold amtsOf
  rw [List.length_map]
  exact List.length_filter_le _ _
theorem amts_mem {l : List Leg_} {a : ByteArray} {x : Int} (h : x ∈ amtsOf l a) : ∃ g ∈ l, g.f1 = a ∧ g.f2 = x := by
  unfold amtsOf at h
  obtain ⟨g, hg, e⟩ := List.mem_map.1 h
  obtain ⟨h1, h2⟩ := List.mem_filter.1 hg
  exact ⟨g, h1, of_decide_eq_true h2, e⟩
theorem amts_of_mem {l : List Leg_} {g : Leg_} (h : g ∈ l) : g.f2 ∈ amtsOf l g.f1 := by
  unfold amtsOf
  exact List.mem_map.2 ⟨g, List.mem_filter.2 ⟨h, decide_eq_true rfl⟩, rfl⟩
theorem take_snoc_ {α : Type} (l : List α) (k : Nat) (h : k < l.length) (z : α) : l.take (k + 1) = l.take k ++ [l.getD k z] := by
  rw [List.take_succ_eq_append_getElem h, List.getD_eq_getElem?_getD, List.getElem?_eq_getElem h]
  rfl
theorem getD_mem_ {α : Type} (l : List α) (k : Nat) (h : k < l.length) (z : α) : l.getD k z ∈ l := by
  rw [List.getD_eq_getElem?_getD, List.getElem?_eq_getElem h]
  exact List.getElem_mem h
theorem in64_all {l : List Leg_} (h : ∀ g ∈ l, legIn g = true) (a : ByteArray) : ∀ x ∈ amtsOf l a, in64 x := by
  intro x hx
  obtain ⟨g, hg, _, e⟩ := amts_mem hx
  exact e ▸ (legIn_get (h g hg)).2.2
theorem sum_some {l : List Int} (hn : l.length ≤ 1048576) (h : ∀ x ∈ l, in64 x) : coin_Sum.f l = some (outOf (sumI l)) := by
  unfold coin_Sum.f
  rw [if_pos ⟨hn, h⟩]
theorem out_zero : outOf 0 = (0, 0) := outOf_in (by unfold in64; omega)
theorem out_ne {n : Int} (h : n ≠ 0) : (outOf n).1 ≠ 0 ∨ (outOf n).2 ≠ 0 := by
  by_cases hi : in64 n
  · rw [outOf_in hi]
    exact .inl h
  · rw [outOf_over hi]
    exact .inr (by decide)
/-- No leg's asset sums to something else. -/
theorem check_no_sum {rq : ByteArray} {l : List Leg_} {g : Leg_} (hg : g ∈ l) (h : sumI (amtsOf l g.f1) ≠ 0) : checkB rq l = false := by
  unfold checkB
  have : (l.all fun g => decide (sumI (amtsOf l g.f1) = 0)) = false := by
    rw [List.all_eq_false]
    exact ⟨g, hg, by simp [h]⟩
  rw [this]
  simp
theorem check_no_leg {rq : ByteArray} {l : List Leg_} {g : Leg_} (hg : g ∈ l) (h : legOk g = false) : checkB rq l = false := by
  unfold checkB
  have : l.all legOk = false := by
    rw [List.all_eq_false]
    exact ⟨g, hg, by simp [h]⟩
  rw [this]
  simp
theorem check_yes {rq : ByteArray} {l : List Leg_} (h0 : isPart isSign 12 rq = true) (h1 : 2 ≤ l.length) (h2 : l.length ≤ 200) (h3 : ∀ g ∈ l, legOk g = true) (h4 : ∀ g ∈ l, sumI (amtsOf l g.f1) = 0) : checkB rq l = true := by
  unfold checkB
  rw [h0, decide_eq_true h1, decide_eq_true h2, List.all_eq_true.2 h3, List.all_eq_true.2 (fun g hg => decide_eq_true (h4 g hg))]
  rfl
theorem check_get {rq : ByteArray} {l : List Leg_} (h : checkB rq l = true) : isPart isSign 12 rq = true ∧ 2 ≤ l.length ∧ l.length ≤ 200 ∧ (∀ g ∈ l, legOk g = true) ∧ ∀ g ∈ l, sumI (amtsOf l g.f1) = 0 := by
  unfold checkB at h
  simp only [Bool.and_eq_true, decide_eq_true_eq] at h
  exact ⟨h.1.1, h.1.2.1, h.1.2.2, List.all_eq_true.1 h.2.1, fun g hg => of_decide_eq_true (List.all_eq_true.1 h.2.2 g hg)⟩

/-- What someone got of an asset, from a day on, up to another one. -/
def gotLegs (l : List Leg_) (who asset : ByteArray) : List Int := (l.filter fun g => decide (g.f0 = who) && decide (g.f1 = asset)).map fun g => g.f2
abbrev Ent_ := S43
def gotOf : List Ent_ → ByteArray → ByteArray → Int → Int → List Int
  | [], _, _, _, _ => []
  | x :: l, who, asset, a, b => (if a ≤ x.f1 ∧ x.f1 < b then gotLegs x.f3 who asset else []) ++ gotOf l who asset a b
end Go.Proofs.YtnngbnhbmgdkoaaGreatDoor.E
