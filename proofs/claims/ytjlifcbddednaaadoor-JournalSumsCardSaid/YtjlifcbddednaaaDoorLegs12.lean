/- Legs in another order, without one, with another amount: what becomes of an entry that may be. -/
import Derived.Test.YtjlifcbddednaaaDoorJPure
namespace Go.Proofs.YtjlifcbddednaaaDoor.E
open Go.RowKit Go.Proofs.YtjlifcbddednaaaDoor.P Go.Proofs.YtjlifcbddednaaaDoorW.PrintWords Go.Proofs.YtjlifcbddednaaaDoorW.PrintLast
theorem sumI_perm {l m : List Int} (h : l.Perm m) : sumI l = sumI m := by
  induction h with
  | nil => rfl
  | cons x _ ih => simp only [sumI, ih]
  | swap x y l => simp only [sumI]; omega
  | trans _ _ ih1 ih2 => exact ih1.trans ih2
theorem amts_perm {l m : List Leg_} (h : l.Perm m) (a : ByteArray) : (amtsOf l a).Perm (amtsOf m a) := by
  unfold amtsOf
  exact (h.filter _).map _
theorem check_iff {rq : ByteArray} {l : List Leg_} : checkB rq l = true ↔ isPart isSign 12 rq = true ∧ 2 ≤ l.length ∧ l.length ≤ 200 ∧ (∀ g ∈ l, legOk g = true) ∧ ∀ g ∈ l, sumI (amtsOf l g.f1) = 0 :=
  ⟨check_get, fun ⟨h0, h1, h2, h3, h4⟩ => check_yes h0 h1 h2 h3 h4⟩
theorem check_perm {rq : ByteArray} {l m : List Leg_} (h : l.Perm m) (hc : checkB rq l = true) : checkB rq m = true := by
  obtain ⟨h0, h1, h2, h3, h4⟩ := check_get hc
  refine check_yes h0 (h.length_eq ▸ h1) (h.length_eq ▸ h2) (fun g hg => h3 g (h.mem_iff.2 hg)) (fun g hg => ?_)
  rw [← sumI_perm (amts_perm h g.f1)]
  exact h4 g (h.mem_iff.2 hg)
theorem split_at (l : List Leg_) (p : Nat) (hp : p < l.length) : l.Perm (l[p] :: (l.take p ++ l.drop (p + 1))) := by
  have e : l.take p ++ l[p] :: l.drop (p + 1) = l := by rw [← List.drop_eq_getElem_cons hp, List.take_append_drop]
  have := List.perm_middle (a := l[p]) (l₁ := l.take p) (l₂ := l.drop (p + 1))
  rwa [e] at this
theorem amts_cons (g : Leg_) (l : List Leg_) (a : ByteArray) : sumI (amtsOf (g :: l) a) = (if g.f1 = a then g.f2 else 0) + sumI (amtsOf l a) := by
  have := amts_app [g] l a
  rw [List.singleton_append] at this
  rw [this, sumI_app]
  split
  · rename_i h
    rw [amts_hit h]
    simp [sumI]
  · rename_i h
    rw [amts_miss h]
    simp [sumI]
theorem check_turn {rq : ByteArray} {l : List Leg_} (hc : checkB rq l = true) (p : Nat) : checkB rq (l.drop p ++ l.take p) = true := by
  refine check_perm ?_ hc
  have := List.perm_append_comm (l₁ := l.take p) (l₂ := l.drop p)
  rwa [List.take_append_drop] at this
theorem leg_ne {g : Leg_} (h : legOk g = true) : g.f2 ≠ 0 := by
  unfold legOk at h
  simp only [Bool.and_eq_true, decide_eq_true_eq] at h
  exact h.2
theorem check_less {rq : ByteArray} {l : List Leg_} (hc : checkB rq l = true) (p : Nat) (hp : p < l.length) : checkB rq (l.take p ++ l.drop (p + 1)) = false := by
  rw [Bool.eq_false_iff]
  intro hm
  obtain ⟨_, _, _, h3, h4⟩ := check_get hc
  obtain ⟨_, _, _, _, m4⟩ := check_get hm
  have hin : l[p] ∈ l := List.getElem_mem hp
  have hs := h4 _ hin
  rw [sumI_perm (amts_perm (split_at l p hp) _), amts_cons, if_pos rfl] at hs
  have hne := leg_ne (h3 _ hin)
  cases hq : amtsOf (l.take p ++ l.drop (p + 1)) l[p].f1 with
  | nil =>
    rw [hq] at hs
    simp only [sumI] at hs
    omega
  | cons x t =>
    obtain ⟨g, hg, he, _⟩ := amts_mem (l := l.take p ++ l.drop (p + 1)) (a := l[p].f1) (x := x) (by rw [hq]; exact List.mem_cons_self ..)
    have := m4 g hg
    rw [he] at this
    omega
theorem check_other {rq : ByteArray} {l : List Leg_} (hc : checkB rq l = true) (p : Nat) (hp : p < l.length) (x : Int) : checkB rq (l.set p ⟨l[p].f0, l[p].f1, x⟩) = decide (x = l[p].f2) := by
  by_cases h : x = l[p].f2
  · rw [decide_eq_true h, h]
    have : (⟨l[p].f0, l[p].f1, l[p].f2⟩ : Leg_) = l[p] := rfl
    rw [this, List.set_getElem_self]
    exact hc
  · rw [decide_eq_false h]
    obtain ⟨_, _, _, _, h4⟩ := check_get hc
    have hs := h4 _ (List.getElem_mem hp)
    rw [sumI_perm (amts_perm (split_at l p hp) _), amts_cons, if_pos rfl] at hs
    have hset : l.set p ⟨l[p].f0, l[p].f1, x⟩ = l.take p ++ (⟨l[p].f0, l[p].f1, x⟩ : Leg_) :: l.drop (p + 1) := List.set_eq_take_append_cons_drop .. |>.trans (if_pos hp)
    refine check_no_sum (g := ⟨l[p].f0, l[p].f1, x⟩) (by rw [hset]; simp) ?_
    rw [hset, sumI_perm (amts_perm (List.perm_middle) _), amts_cons, if_pos rfl]
    show x + sumI (amtsOf (l.take p ++ l.drop (p + 1)) l[p].f1) ≠ 0
    omega
end Go.Proofs.YtjlifcbddednaaaDoor.E
